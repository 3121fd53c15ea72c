/-
  Lemmas for the theorem vnulls_holds, part 32 of 36.
-/
import Derived.Test.YtgplhbhfdgempaaGreatNu25
import Derived.Test.YtgplhbhfdgempaaGreatNu26
import Derived.Test.YtgplhbhfdgempaaGreatNu31
namespace Go.Proofs.YtgplhbhfdgempaaGreat
open Go Go.RowKit
set_option maxRecDepth 100000
set_option maxHeartbeats 1000000
set_option linter.unusedVariables false
set_option linter.unusedSimpArgs false
def okR (l:LR):Bool:=!l.any (fun q=>!q.ok)
def b8x:Ctr:=⟨[.list tMR],[tB],fun x=>(show ML from x.1).length<=1000000/\∀ a ∈ (show ML from x.1),iF a,fun x=>(fA x.1==0,())⟩
def b8v:Ctr:=⟨[.list tR],[tB],fun x=>rG x.1,fun x=>(okR x.1,())⟩
theorem FQ:aT Tryz.prog 49 b8x:=by
 refine bT (nil0.ad nH) ⟨[],[],[]⟩ Tryz.func49 rfl (by decide) (fun x=>[.inv {k:Nat // k<=(show ML from x.1).length/\((show ML from x.1).take k).any (fun a=>fP a != 0)=false} (fun k=>[(7,.val tI (k.1:Int))]) (fun k=>[]) (fun k=>(show ML from x.1).length-k.1) ⟨0,by omega,rfl⟩ (fun _=>[])]) (fun x hp=>?_)
 obtain⟨x,u⟩:=x
 change List (List (List aF)) at x
 refine bZ ((asT Int 0=0/\True)/\∀ (i:{ k:Nat // k<=List.length x/\(List.any (List.take k x) fun(a:List (List aF))=>fP a != 0)=false }),asT Bool true=true/\ifB (decide (aA (aB i)<aA (List.length x))) ((0<=aA (aB i)/\aA (aB i)<aA (List.length x)/\True)/\(iF (List.getD x (Int.toNat (aA (aB i))) (aC (List aF)))/\True)/\ifB (fP (List.getD x (Int.toNat (aA (aB i))) (aC (List aF))) != 0) (True/\false=(fA x==0)/\True) (∃ (i':{ k:Nat // k<=List.length x/\(List.any (List.take k x) fun(a:List (List aF))=>fP a != 0)=false }),List.length x-aB i'<List.length x-aB i/\IntKind.wrap IntKind.i64 (aA (aB i)+1)=aA (aB i')/\True)) (True/\true=(fA x==0)/\True)) (by kernel_rfl) ?_
 have hZ:(⟨false,0,[],[]⟩:aF)=cZ:=rfl
 dsimp only[aA,asT,aB,aC,Ty.den,Lf.den] at *
 simp only[hZ,Int.toNat_natCast,bG,decide_eq_true_eq,decide_eq_false_iff_not,true_and,and_true,aH,nameAt,aW,aU,bK,rowAt,List.length_set,List.length_range]
 have hp:x.length<=1000000/\∀ a ∈ x,iF a:=hp
 obtain⟨hl,hb⟩:=hp
 refine fun i=>⟨fun h1=>⟨⟨by omega,h1⟩,fD hb (by omega),fun h2=>?_,fun h2=>⟨⟨i.1+1,by omega,?_⟩,by simp only;omega,?_⟩⟩,fun h1=>?_⟩
 ·have hi:i.1<x.length:=by omega
  have h3:x.any (fun a=>fP a != 0)=true:=List.any_eq_true.mpr ⟨x.getD i.1 [],by rw[List.getD_eq_getElem?_getD,List.getElem?_eq_getElem hi];exact List.getElem_mem hi,h2⟩
  unfold fA;rw[h3];rfl
 ·rw[mM (d:=[]) (by omega),i.2.2,h2];rfl
 ·rw[bH (by omega) (by omega)];rfl
 ·have h3:=i.2.2
  rw[List.take_of_length_le (by omega)] at h3
  unfold fA;rw[h3];rfl
theorem a7O:aT Tryz.prog 58 b8v:=by
 refine bT (nil0.ad b3x) ⟨[4],[],[]⟩ Tryz.func58 rfl (by decide) (fun x=>[.inv {k:Nat // k<=(show LR from x.1).length/\((show LR from x.1).take k).any (fun q=>!q.ok)=false} (fun k=>[(7,.val tI (k.1:Int))]) (fun k=>[]) (fun k=>(show LR from x.1).length-k.1) ⟨0,by omega,rfl⟩ (fun _=>[])]) (fun x hp=>?_)
 obtain⟨x,u⟩:=x
 change List aF at x
 refine bZ ((asT Int 0=0/\True)/\∀ (i:{ k:Nat // k<=List.length x/\(List.any (List.take k x) fun(q:aF)=>!aF.ok q)=false }),asT Bool true=true/\ifB (decide (aA (aB i)<aA (List.length x))) ((0<=aA (aB i)/\aA (aB i)<aA (List.length x)/\True)/\((aF.n (List.getD x (Int.toNat (aA (aB i))) cZ)<=1000000000/\aF.m (List.getD x (Int.toNat (aA (aB i))) cZ)<=1000000000)/\True)/\ifB (!aF.ok (List.getD x (Int.toNat (aA (aB i))) cZ)) (True/\false=okR x/\True) (∃ (i':{ k:Nat // k<=List.length x/\(List.any (List.take k x) fun(q:aF)=>!aF.ok q)=false }),List.length x-aB i'<List.length x-aB i/\IntKind.wrap IntKind.i64 (aA (aB i)+1)=aA (aB i')/\True)) (True/\true=okR x/\True)) (by kernel_rfl) ?_
 have hZ:(⟨false,0,[],[]⟩:aF)=cZ:=rfl
 dsimp only[aA,asT,aB,aC,Ty.den,Lf.den] at *
 simp only[hZ,Int.toNat_natCast,bG,decide_eq_true_eq,decide_eq_false_iff_not,true_and,and_true,aH,nameAt,aW,aU,bK,rowAt,List.length_set,List.length_range]
 have hp:rG x:=hp
 obtain⟨hl,hb⟩:=hp
 refine fun i=>⟨fun h1=>⟨⟨by omega,h1⟩,fD hb (by omega),fun h2=>?_,fun h2=>⟨⟨i.1+1,by omega,?_⟩,by simp only;omega,?_⟩⟩,fun h1=>?_⟩
 ·have hi:i.1<x.length:=by omega
  have h3:x.any (fun q=>!q.ok)=true:=List.any_eq_true.mpr ⟨x.getD i.1 cZ,by rw[List.getD_eq_getElem?_getD,List.getElem?_eq_getElem hi];exact List.getElem_mem hi,h2⟩
  unfold okR;rw[h3];rfl
 ·rw[mM (d:=cZ) (by omega),i.2.2,h2];rfl
 ·rw[bH (by omega) (by omega)];rfl
 ·have h3:=i.2.2
  rw[List.take_of_length_le (by omega)] at h3
  unfold okR;rw[h3];rfl
def qW (a:MR) (r c:Int):Bool:=((a.length:Int)==r)&&((wdM a:Int)==c)
def b3G:Ctr:=⟨[tMR,tI,tI],[tB],fun x=>0<(show MR from x.1).length,fun x=>(qW x.1 x.2.1 x.2.2.1,())⟩
theorem VA:aT Tryz.prog 59 b3G:=by
 refine bT nil0 ⟨[],[],[]⟩ Tryz.func59 rfl (by decide) (fun x=>[]) (fun x hp=>?_)
 obtain⟨a,r,c,u⟩:=x
 change List (List aF) at a
 change Int at r
 change Int at c
 refine bZ (((((aA (List.length a)==r)==true)=true->((aA (List.length a)==r)==true)=true/\asT Int 0<=0/\0<aA (List.length a)/\True)/\(((aA (List.length a)==r)==true)=true->((aA (List.length a)==r)==true)=true/\True)/\(((aA (List.length a)==r)==true)=true->((aA (List.length a)==r)==true)=true/\True)/\(((aA (List.length a)==r)==true)=true->((aA (List.length a)==r)==true)=true/\((aA (List.length a)==r)==true)=true/\True)/\((aA (List.length a)==r)=true->((aA (List.length a)==r)==true)=true)/\True)/\True/\(bif aA (List.length a)==r then aA (List.length (List.getD a 0 (aC aF)))==c else false)=qW a r c/\True) (by kernel_rfl) ?_
 have hZ:(⟨false,0,[],[]⟩:aF)=cZ:=rfl
 dsimp only[aA,asT,aB,aC,Ty.den,Lf.den] at *
 simp only[hZ,Int.toNat_natCast,bG,decide_eq_true_eq,decide_eq_false_iff_not,true_and,and_true,aH,nameAt,aW,aU,bK,rowAt,List.length_set,List.length_range]
 have hp:0<a.length:=hp
 refine⟨⟨fun h=>⟨h,by omega,by omega⟩,fun h=>h,fun h=>h,fun h=>⟨h,h⟩,fun h=>by rw[h];rfl⟩,?_⟩
 unfold qW
 cases ((a.length:Int)==r)<;>rfl
def b8z:Ctr:=⟨[tM],[tB],fun x=>okM x.1/\wdM (show MQ from x.1)=(show MQ from x.1).length,fun x=>(yQ x.1,())⟩
theorem a0G:aT Tryz.prog 50 b8z:=by
 refine bT (nil0.ad b9Y) ⟨[],[],[]⟩ Tryz.func50 rfl (by decide) (fun x=>[.inv {k:Nat // k<=(show MQ from x.1).length/\∀ i,i<k->∀ j,j<i->ent (show MQ from x.1) i j=ent (show MQ from x.1) j i} (fun k=>[(7,.val tI (k.1:Int))]) (fun k=>[]) (fun k=>(show MQ from x.1).length-k.1) ⟨0,by omega,fun i h=>absurd h (by omega)⟩ (fun k=>[.inv {c:Nat // c<=k.1/\∀ j,j<c->ent (show MQ from x.1) k.1 j=ent (show MQ from x.1) j k.1} (fun c=>[(11,.val tI (c.1:Int))]) (fun c=>[]) (fun c=>k.1-c.1) ⟨0,by omega,fun i h=>absurd h (by omega)⟩ (fun _=>[])])]) (fun x hp=>?_)
 obtain⟨a,u⟩:=x
 change List (List Rat) at a
 refine bZ ((asT Int 0=0/\True)/\∀ (i:{ k:Nat // k<=List.length a/\∀ (i:Nat),i<k->∀ (j:Nat),j<i->ent a i j=ent a j i }),let A₁:=(Int.toNat (aA (aB i)));let A₀:=(List.getD a A₁ (aC Rat));asT Bool true=true/\ifB (decide (aA (aB i)<aA (List.length a))) ((asT Int 0=0/\True)/\∀ (i_1:{ c:Nat // c<=aB i/\∀ (j:Nat),j<c->ent a (aB i) j=ent a j (aB i) }),let A₂:=(Int.toNat (aA (aB i_1)));let bJ:=(List.getD a A₂ (aC Rat));asT Bool true=true/\ifB (decide (aA (aB i_1)<aA (aB i))) ((0<=aA (aB i)/\aA (aB i)<aA (List.length a)/\0<=aA (aB i_1)/\aA (aB i_1)<aA (List.length A₀)/\0<=aA (aB i_1)/\aA (aB i_1)<aA (List.length a)/\0<=aA (aB i)/\aA (aB i)<aA (List.length bJ)/\s44 (List.getD A₀ A₂ 0) (List.getD bJ A₁ 0)/\True)/\ifB (JU (List.getD A₀ A₂ 0) (List.getD bJ A₁ 0) != 0) (True/\false=yQ a/\True) (∃ (i':{ c:Nat // c<=aB i/\∀ (j:Nat),j<c->ent a (aB i) j=ent a j (aB i) }),aB i-aB i'<aB i-aB i_1/\IntKind.wrap IntKind.i64 (aA (aB i_1)+1)=aA (aB i')/\True)) (∃ (i':{ k:Nat // k<=List.length a/\∀ (i:Nat),i<k->∀ (j:Nat),j<i->ent a i j=ent a j i }),List.length a-aB i'<List.length a-aB i/\IntKind.wrap IntKind.i64 (aA (aB i)+1)=aA (aB i')/\True)) (True/\true=yQ a/\True)) (by kernel_rfl) ?_
 have hZ:(⟨false,0,[],[]⟩:aF)=cZ:=rfl
 dsimp only[aA,asT,aB,aC,Ty.den,Lf.den] at *
 simp only[hZ,Int.toNat_natCast,bG,decide_eq_true_eq,decide_eq_false_iff_not,true_and,and_true,aH,nameAt,aW,aU,bK,rowAt,List.length_set,List.length_range]
 have hp:okM a/\wdM a=a.length:=hp
 obtain⟨ha,hw⟩:=hp
 have q1:=ha.r64
 refine fun i=>⟨fun h1=>fun j=>⟨fun h2=>?_,fun h2=>⟨⟨i.1+1,by omega,fun k hk c hc=>?_⟩,by simp only;omega,?_⟩⟩,fun h1=>?_⟩
 ·have hi:i.1<a.length:=by omega
  have hj:j.1<i.1:=by omega
  have r1:=ha.row hi
  have r2:=ha.row (show j.1<a.length by omega)
  have z1:=ha.2 i.1 hi j.1 (by omega)
  have z2:=ha.2 j.1 (by omega) i.1 (by omega)
  rw[r1,r2]
  have e:JU ((a.getD i.1 []).getD j.1 0) ((a.getD j.1 []).getD i.1 0)=0↔ent a i.1 j.1=ent a j.1 i.1:=PV _ _
  refine⟨⟨by omega,by omega,by omega,by omega,by omega,by omega,by omega,by omega,⟨Nat.le_trans z1 (by omega),Nat.le_trans z2 (by omega)⟩⟩,fun h3=>?_,fun h3=>⟨⟨j.1+1,by omega,fun c hc=>?_⟩,by simp only;omega,?_⟩⟩
  ·refine(decide_eq_false fun h=>?_).symm
   have:=e.mpr (h i.1 hi j.1 (by omega))
   rw[this] at h3;exact absurd h3 (by decide)
  ·by_cases h4:c<j.1
   ·exact j.2.2 c h4
   ·rw[show c=j.1 by omega];exact e.mp (by simpa using h3)
  ·rw[bH (by omega) (by omega)];rfl
 ·by_cases h4:k<i.1
  ·exact i.2.2 k h4 c hc
  ·have:k=i.1:=by omega
   subst this
   exact j.2.2 c (by omega)
 ·rw[bH (by omega) (by omega)];rfl
 ·refine(decide_eq_true fun k hk c hc=>?_).symm
  rcases Nat.lt_trichotomy k c with h|h|h
  ·exact(i.2.2 c (by omega) k h).symm
  ·rw[h]
  ·exact i.2.2 k (by omega) c h
def a5X (n g:MQ):Prop:=okE n/\okE g/\wdM n=n.length/\g.length=n.length/\szM n 1000000/\szM g 1000000
theorem a9J (a:MQ):rkM a<=a.length:=(gX a.length (ent a) (wdM a)).le
theorem b4z {a b:MQ} {R C:Nat} (sa:szM a 1000000) (sb:szM b 1000000) (hM:isM (mulM a b) R C) (hw:wdM a=b.length) (h64:b.length<=64) {i j:Nat} (hi:i<R) (hj:j<C):rsz (ent (mulM a b) i j)<=128000065:=by
 have l1:(mulM a b).length=a.length:=bK
 have hi2:i<a.length:=by have:=hM.len;omega
 have l2:wdM (mulM a b)=wdM b:=TL (by omega)
 have hj2:j<wdM b:=by have:=hM.wd;omega
 unfold mulM
 rw[qH hi2 hj2]
 have:=a3M (K:=2000000) (f:=fun k=>ent a i k*ent b k j) b.length (fun k hk=>by
  have y1:=sa i hi2 k (by omega)
  have y2:=sb k hk j hj2
  have y3:=IW (ent a i k) (ent b k j)
  show rsz (ent a i k*ent b k j)<=_
  omega)
 have y4:b.length*(2000000+1)<=64*2000001:=Nat.mul_le_mul h64 (Nat.le_refl _)
 show rsz (sm b.length fun k=>ent a i k*ent b k j)<=_
 omega
def b8w:Ctr:=⟨[tM,tM],[tB],fun x=>a5X x.1 x.2.1,fun x=>(wX x.1 x.2.1,())⟩
theorem PZ:aT Tryz.prog 57 b8w:=by
 refine bT ((((nil0.ad a2v).ad OH).ad a9y).ad a0G) ⟨[10],[],[]⟩ Tryz.func57 rfl (by decide) (fun x=>[.inv {k:Nat // k<=(mulM (show MQ from x.1) (show MQ from x.2.1)).length/\∀ i,i<k->∀ j,j<wdM (mulM (show MQ from x.1) (show MQ from x.2.1))->ent (mulM (show MQ from x.1) (show MQ from x.2.1)) i j=0} (fun k=>[(26,.val tI (k.1:Int))]) (fun k=>[]) (fun k=>(mulM (show MQ from x.1) (show MQ from x.2.1)).length-k.1) ⟨0,by omega,fun i h=>absurd h (by omega)⟩ (fun k=>[.inv {c:Nat // c<=wdM (mulM (show MQ from x.1) (show MQ from x.2.1))/\∀ j,j<c->ent (mulM (show MQ from x.1) (show MQ from x.2.1)) k.1 j=0} (fun c=>[(32,.val tI (c.1:Int))]) (fun c=>[]) (fun c=>wdM (mulM (show MQ from x.1) (show MQ from x.2.1))-c.1) ⟨0,by omega,fun i h=>absurd h (by omega)⟩ (fun _=>[])])]) (fun x hp=>?_)
 obtain⟨a,b,u⟩:=x
 change List (List Rat) at a
 change List (List Rat) at b
 refine bZ (let A₀:=(List.length (List.getD b 0 (aC Rat)));let A₁:=(tab (List.length a) (wdM b) (mm (List.length b) (ent a) (ent b)));((okM a/\wdM a=List.length a)/\True)/\ifB (!yQ a) (True/\false=wX a b/\True) (((okM a/\okM b/\wdM a=List.length b/\szM a 1000000/\szM b 1000000)/\True)/\(asT Int 0=0/\True)/\∀ (i:{ k:Nat // k<=List.length (mulM a b)/\∀ (i:Nat),i<k->∀ (j:Nat),j<wdM (mulM a b)->ent (mulM a b) i j=0 }),let A₂:=(List.getD A₁ (Int.toNat (aA (aB i))) (aC Rat));asT Bool true=true/\ifB (decide (aA (aB i)<aA (List.length A₁))) ((0<=aA (aB i)/\aA (aB i)<aA (List.length A₁)/\True)/\(asT Int 0=0/\True)/\∀ (i_1:{ c:Nat // c<=wdM (mulM a b)/\∀ (j:Nat),j<c->ent (mulM a b) (aB i) j=0 }),let bJ:=(List.getD A₂ (Int.toNat (aA (aB i_1))) 0);asT Bool true=true/\ifB (decide (aA (aB i_1)<aA (List.length A₂))) ((0<=aA (aB i_1)/\aA (aB i_1)<aA (List.length A₂)/\True)/\(rsz bJ<=1000000000/\True)/\ifB (sgn (Rat.num bJ) != 0) (True/\false=wX a b/\True) (∃ (i':{ c:Nat // c<=wdM (mulM a b)/\∀ (j:Nat),j<c->ent (mulM a b) (aB i) j=0 }),wdM (mulM a b)-aB i'<wdM (mulM a b)-aB i_1/\IntKind.wrap IntKind.i64 (aA (aB i_1)+1)=aA (aB i')/\True)) (∃ (i':{ k:Nat // k<=List.length (mulM a b)/\∀ (i:Nat),i<k->∀ (j:Nat),j<wdM (mulM a b)->ent (mulM a b) i j=0 }),List.length (mulM a b)-aB i'<List.length (mulM a b)-aB i/\IntKind.wrap IntKind.i64 (aA (aB i)+1)=aA (aB i')/\True)) ((okE a/\True)/\(okE b/\True)/\(asT Int 0<=0/\0<aA (List.length b)/\(((aA (rkM b)==aA A₀)==true)=true->((aA (rkM b)==aA A₀)==true)=true/\True)/\(((aA (rkM b)==aA A₀)==true)=true->((aA (rkM b)==aA A₀)==true)=true/\((aA (rkM b)==aA A₀)==true)=true/\True)/\(((aA (rkM b)==aA A₀)==true)=true->((aA (rkM b)==aA A₀)==true)=true/\((aA (rkM b)==aA A₀)==true)=true/\True)/\((aA (rkM b)==aA A₀)=true->((aA (rkM b)==aA A₀)==true)=true)/\True)/\True/\(bif aA (rkM b)==aA A₀ then aA (rkM b)==IntKind.wrap IntKind.i64 (aA (List.length a)-aA (rkM a)) else false)=wX a b/\True))) (by kernel_rfl) ?_
 have hZ:(⟨false,0,[],[]⟩:aF)=cZ:=rfl
 dsimp only[aA,asT,aB,aC,Ty.den,Lf.den] at *
 simp only[hZ,Int.toNat_natCast,bG,decide_eq_true_eq,decide_eq_false_iff_not,true_and,and_true,aH,nameAt,aW,aU,bK,rowAt,List.length_set,List.length_range]
 have hp:a5X a b:=hp
 obtain⟨ea,eb,hw,hl,sa,sb⟩:=hp
 have ha:=ea.1
 have hb:=eb.1
 have q1:=ha.r64
 have q2:=hb.r64
 have q3:=hb.c64
 have q4:=hb.pos
 have ra:rkM a<=a.length:=a9J a
 have rb:rkM b<=b.length:=a9J b
 have hwb:(b.getD 0 []).length=wdM b:=rfl
 have hM:isM (mulM a b) a.length (wdM b):=ha.1.mul (by have:=hb.1;rwa [hl,<-hw] at this)
 have hm:tab a.length (wdM b) (mm b.length (ent a) (ent b))=mulM a b:=rfl
 have e1:(mulM a b).length=a.length:=hM.len
 have e2:wdM (mulM a b)=wdM b:=hM.wd
 rw[hwb,hm]
 simp only[e1,e2]
 refine⟨⟨ha,hw⟩,fun h1=>?_,fun h1=>⟨⟨ha,hb,by omega,sa,sb⟩,fun i=>⟨fun h2=>⟨⟨by omega,h2⟩,fun j=>?_⟩,fun h2=>?_⟩⟩⟩
 ·have h1:yQ a=false:=by simpa using h1
  unfold wX;rw[h1];rfl
 ·have hi:i.1<a.length:=by omega
  have hr:=hM.row hi
  rw[hr]
  refine⟨fun h3=>?_,fun h3=>⟨⟨i.1+1,by omega,fun k hk c hc=>?_⟩,by simp only;omega,?_⟩⟩
  ·have hj:j.1<wdM b:=by omega
   refine⟨⟨by omega,by omega⟩,?_,fun h4=>?_,fun h4=>⟨⟨j.1+1,by omega,fun c hc=>?_⟩,by simp only;omega,?_⟩⟩
   ·have z:=b4z sa sb hM (by omega) (by omega) hi hj
    exact Nat.le_trans z (by omega)
   ·have h5:wX a b=false:=by
     unfold wX
     rw[show a2w (mulM a b)=false from decide_eq_false fun h=>by
      have:ent (mulM a b) i.1 j.1=0:=h i.1 (by omega) j.1 (by omega)
      rw[show ((mulM a b).getD i.1 []).getD j.1 0=0 from this] at h4
      revert h4;decide]
     rw[Bool.and_false];rfl
    exact h5.symm
   ·by_cases h5:c<j.1
    ·exact j.2.2 c h5
    ·rw[show c=j.1 by omega];exact a5q h4
   ·rw[bH (by omega) (by omega)];rfl
  ·by_cases h4:k<i.1
   ·exact i.2.2 k h4 c hc
   ·have:k=i.1:=by omega
    subst this
    exact j.2.2 c (by omega)
  ·rw[bH (by omega) (by omega)];rfl
 ·refine⟨ea,eb,⟨by omega,by omega,fun h=>h,fun h=>⟨h,h⟩,fun h=>⟨h,h⟩,fun h=>by rw[h];rfl⟩,?_⟩
  have h1:yQ a=true:=by simpa using h1
  have hz:a2w (mulM a b)=true:=decide_eq_true fun k hk c hc=>i.2.2 k (by omega) c (by omega)
  unfold wX
  rw[h1,hz,bH (by omega) (by omega)]
  by_cases h3:rkM b=wdM b
  ·rw[show (((rkM b:Nat):Int)==((wdM b:Nat):Int))=true by rw[h3];exact beq_self_eq_true _,decide_eq_true h3]
   show (((rkM b:Nat):Int)==(a.length:Int)-(rkM a:Int))=decide (rkM b+rkM a=a.length)
   by_cases h4:rkM b+rkM a=a.length
   ·rw[decide_eq_true h4];exact beq_iff_eq.mpr (by omega)
   ·rw[decide_eq_false h4];exact beq_eq_false_iff_ne.mpr (by omega)
  ·rw[show (((rkM b:Nat):Int)==((wdM b:Nat):Int))=false from beq_eq_false_iff_ne.mpr (by omega),decide_eq_false h3];rfl
def lq (l:LR):LQ':=List.map (fun q:aF=>q.x) l
def mq (a:MR):MQ:=List.map (fun r:LR=>lq r) a
def smK (K:Nat) (a:MR):Prop:=iF a/\(fP a=0->a.length<=7/\wdM a<=7/\CdM (mq a) K)
theorem pV (a:MR):(mq a).length=a.length:=by unfold mq;exact List.length_map _
theorem ZE (l:LR):(lq l).length=l.length:=by unfold lq;exact List.length_map _
theorem NT (a:MR):List.map (fun r:List aF=>lq r) a=mq a:=rfl
theorem NS (l:LR):List.map (fun q:aF=>q.x) l=lq l:=rfl
theorem a3h {a:MR} (i:Nat):(mq a).getD i []=lq (a.getD i []):=by
 unfold mq
 simp only[List.getD_eq_getElem?_getD,List.getElem?_map]
 cases a[i]?<;>rfl
theorem WA (a:MR):wdM (mq a)=wdM a:=by
 show ((mq a).getD 0 []).length=(a.getD 0 []).length
 rw[a3h,ZE]
theorem a4T (a:MQ):mq (liftM a)=a:=by
 unfold mq lq
 rw[List.map_map]
 conv=>rhs;rw[<-List.map_id a]
 refine List.map_congr_left fun r _=>?_
 show List.map (fun q:aF=>q.x) (List.map (fun x=>dR x) r)=r
 rw[List.map_map]
 conv=>rhs;rw[<-List.map_id r]
 exact List.map_congr_left fun x _=>rfl
theorem nG {a:MR} (h:fP a=0):isM (mq a) a.length (wdM a)/\∀ r ∈ a,∀ q ∈ r,q.ok=true:=by
 unfold fP at h
 split at h
 ·next hh =>
  obtain⟨h1,h2,h3,h4,h5⟩:=hh
  have h6:∀ r ∈ a,r.length=wdM a/\∀ q ∈ r,q.ok=true:=fun r hr=>by
   have h7:=List.any_eq_false.mp h5 r hr
   unfold badR at h7
   rw[Bool.not_eq_true,Bool.or_eq_false_iff] at h7
   refine⟨by simpa using h7.1,fun q hq=>?_⟩
   have:=List.any_eq_false.mp h7.2 q hq
   simpa using this
  refine⟨⟨pV a,fun r hr=>?_,h1,h2,h3,h4⟩,fun r hr=>(h6 r hr).2⟩
  obtain⟨s,hs,rfl⟩:=List.mem_map.mp hr
  rw[ZE];exact(h6 s hs).1
 ·cases h
theorem vO {a:MR} (h:∀ r ∈ a,∀ q ∈ r,q.ok=true):dO (fun x:List aF=>aV [dO (fun q:aF=>aV [q.ok=true]) x]) a:=jS.mpr fun r hr=>⟨jS.mpr fun q hq=>⟨h r hr q hq,trivial⟩,trivial⟩
theorem smK.at {K:Nat} {a:MR} (H:smK K a) (h:fP a=0):isM (mq a) a.length (wdM a)/\a.length<=7/\wdM a<=7/\CdM (mq a) K:=⟨(nG h).1,H.2 h⟩
theorem a3s {C:Nat} (h:C<=7):2 ^ C<=128:=Nat.pow_le_pow_right (n:=2) (by omega) h
theorem zY {a:MQ} {R C K:Nat} (h:isM a R C) (hc:C<=7) (H:CdM a K) (hK:K<=70000):okE a:=by
 refine⟨H.ok h (by omega),OJ H (Nat.le_refl _) ?_⟩
 have h1:=Nat.mul_le_mul (a3s (C:=wdM a) (by rw[h.wd];exact hc)) (show K+1<=70001 by omega)
 omega
theorem rC (l:ML):(fA l==0)=l.all (fun a=>fP a==0):=by
 unfold fA
 cases h:l.any (fun a=>fP a != 0)
 ·rw[if_neg (by decide)]
  refine(List.all_eq_true.mpr fun a ha=>?_).symm
  have:=List.any_eq_false.mp h a ha
  simpa using this
 ·rw[if_pos rfl]
  obtain⟨a,ha,hb⟩:=List.any_eq_true.mp h
  exact(List.all_eq_false.mpr ⟨a,ha,by simpa using hb⟩).symm
theorem mX (a b:Bool):(bif a then true else b)=(a || b):=by cases a<;>rfl
theorem NU (a b:MQ):tab a.length (wdM b) (mm b.length (ent a) (ent b))=mulM a b:=rfl
theorem trF (a:MQ):tab (wdM a) a.length (tr (ent a))=trM a:=rfl
theorem CdM.mono {a:MQ} {K L:Nat} (H:CdM a K) (h:K<=L):CdM a L:=Cd.mono H h
theorem a7Z {N s:Nat} {p:List Nat} (h:s<(frees N p).length):(frees N p).getD s 0<N:=by
 rw[FY h]
 have:=List.getElem_mem h
 unfold frees at this
 exact List.mem_range.mp (List.mem_filter.mp this).1
theorem a7A {e:Mt} {N K:Nat} (H:Cd (red N e N).1 N N K) (hK:1<=K):Cd (MS N e) N (frees N (red N e N).2).length K:=by
 have E:=gX N e N
 have hle:=E.le
 obtain⟨D,d1,d2,d3⟩:=H
 refine⟨D,d1,d2,fun i hi s hs=>?_⟩
 have hj:=a7Z hs
 show ∃ z:Int,IG (red N e N).1 (red N e N).2 ((frees N (red N e N).2).getD s 0) i*(D:Nat)=(z:Int)/\isz z<=K
 unfold IG
 split
 ·exact⟨(D:Nat),by rw[Rat.one_mul];rfl,by unfold isz;simpa using d2⟩
 ·split
  ·next h1 h2 =>
   obtain⟨z,z1,z2⟩:=d3 ((red N e N).2.idxOf i) (by have:=List.idxOf_lt_length_of_mem h2;omega) _ hj
   exact⟨-z,by rw[Rat.neg_mul,z1,Rat.intCast_neg],by rw[lX];exact z2⟩
  ·exact⟨0,by rw[Rat.zero_mul];rfl,by rw[GU];omega⟩
theorem SB {n:MQ} {N:Nat} (hn:isM n N N) (h7:N<=7) (H:CdM n 100) (h:fK n≠[]):isM (fK n) (fK n).length N/\CdM (fK n) 13000/\(fK n).length<=7:=by
 have E:=gX N (ent n) N
 have h1:=a0U E.nd E.lt
 have h2:1<=(frees N (red N (ent n) N).2).length:=by
  rcases Nat.eq_zero_or_pos (frees N (red N (ent n) N).2).length with e|e
  ·exact absurd (by rw[sF hn,e];rfl) h
  ·exact e
 have H2:Cd (ent n) N N 100:=by have:=H;unfold CdM at this;rwa [hn.len,hn.wd] at this
 have h3:2 ^ N*(100+1)<=128*101:=Nat.mul_le_mul (a3s h7) (Nat.le_refl _)
 have h4:1<=2 ^ N:=Nat.one_le_two_pow
 have h5:1*101<=2 ^ N*(100+1):=Nat.mul_le_mul h4 (Nat.le_refl _)
 have H3:=a7A (H2.red N (Nat.le_refl N)) (by omega)
 rw[sF hn,bK]
 exact⟨rV h2 (by omega) hn.2.2.1 hn.2.2.2.1,(EW h2 (Cd.tr H3)).mono (by omega),by omega⟩
theorem a9j {n:MQ} {N:Nat} (hn:isM n N N) (h7:N<=7) (H:CdM n 100) (h:fK n≠[]):okM (fK n):=by
 obtain⟨h1,h2,_⟩:=SB hn h7 H h
 exact h2.ok h1 (by omega)
def dW (n:MR):(MQ × Unit) × Int × Unit :=
 if fP n=0 then if n.length=wdM n then if yQ (mq n)=true then if fK (mq n)=[] then (([],()),6,()) else ((trM (fK (mq n)),()),0,()) else (([],()),12,()) else (([],()),4,()) else (([],()),1,())
def a7t:Ctr:=⟨[tMR],[.pair tM .unit,tI],fun x=>smK 100 x.1,fun x=>dW x.1⟩
theorem JW:aT Tryz.prog 11 a7t:=by
 refine bT ((((nil0.ad xZ).ad a6r).ad FQ).ad a0G) ⟨[2],[],[]⟩ Tryz.func11 rfl (by decide) (fun x=>[]) (fun x hp=>?_)
 obtain⟨n,u⟩:=x
 change List (List aF) at n
 refine bZ (let A₁:=(Ty.list (Ty.lf Lf.dD));let A₀:=(List.map (fun(xs:Ty.den A₁)=>List.map (fun(x:Ty.den (Ty.lf Lf.dD))=>aF.x x) xs) n);((List.length (n::aC (List (List aF)))<=1000000/\∀ (a:List (List aF)),a ∈ n::aC (List (List aF))->iF a)/\True)/\ifB (!fA (n::aC (List (List aF)))==0) ((True/\True)/\(List.map (fun(xs:Ty.den A₁)=>List.map (fun(x:Ty.den (Ty.lf Lf.dD))=>aF.x x) xs) (aC (List aF)),())=Prod.fst (dW n)/\True/\1=Prod.fst (Prod.snd (dW n))/\True) ((asT Int 0<=0/\0<aA (List.length n)/\True)/\ifB (aA (List.length n) != aA (List.length (List.getD n 0 (aC aF)))) ((True/\True)/\(List.map (fun(xs:Ty.den A₁)=>List.map (fun(x:Ty.den (Ty.lf Lf.dD))=>aF.x x) xs) (aC (List aF)),())=Prod.fst (dW n)/\True/\4=Prod.fst (Prod.snd (dW n))/\True) ((dO (fun(x:Ty.den A₁)=>aV (dO (fun(x:Ty.den (Ty.lf Lf.dD))=>aV ((aF.ok x=true)::aC Prop)) x::aC Prop)) n/\(okM A₀/\wdM A₀=List.length A₀)/\True)/\ifB (!yQ A₀) ((True/\True)/\(List.map (fun(xs:Ty.den A₁)=>List.map (fun(x:Ty.den (Ty.lf Lf.dD))=>aF.x x) xs) (aC (List aF)),())=Prod.fst (dW n)/\True/\12=Prod.fst (Prod.snd (dW n))/\True) ((dO (fun(x:Ty.den A₁)=>aV (dO (fun(x:Ty.den (Ty.lf Lf.dD))=>aV ((aF.ok x=true)::aC Prop)) x::aC Prop)) n/\okE A₀/\True)/\ifB (aA (List.length (fK A₀))==0) ((True/\True)/\(List.map (fun(xs:Ty.den A₁)=>List.map (fun(x:Ty.den (Ty.lf Lf.dD))=>aF.x x) xs) (aC (List aF)),())=Prod.fst (dW n)/\True/\6=Prod.fst (Prod.snd (dW n))/\True) ((okM (fK A₀)/\True)/\True/\(tab (wdM (fK A₀)) (List.length (fK A₀)) (tr (ent (fK A₀))),())=Prod.fst (dW n)/\True/\0=Prod.fst (Prod.snd (dW n))/\True))))) (by kernel_rfl) ?_
 try dsimp only[Ty.den,Lf.den,asT] at *
 try simp only[NT,NS,trF,NU]
 have hZ:(⟨false,0,[],[]⟩:aF)=cZ:=rfl
 try dsimp only[aA,asT,aB,aC,Ty.den,Lf.den] at *
 try simp only[hZ,Int.toNat_natCast,bG,decide_eq_true_eq,decide_eq_false_iff_not,true_and,and_true,aH,nameAt,aW,aU,bK,rowAt,List.length_set,List.length_range]
 try simp only[rC,List.all_cons,List.all_nil,Bool.and_true,Bool.not_eq_true',Bool.not_eq_false',beq_iff_eq,bne_iff_ne,ne_eq,Bool.and_eq_true,Bool.and_eq_false_imp,beq_eq_false_iff_ne,bne_eq_false_iff_eq,Int.natCast_inj,imp_self,implies_true,and_self,true_and,and_true,mX,Bool.or_eq_true,Bool.or_eq_false_iff,List.length_cons,List.length_nil]
 have hp:smK 100 n:=hp
 have hwd:(n.getD 0 []).length=wdM n:=rfl
 rw[hwd]
 refine⟨⟨by omega,fun a ha=>by rw[List.mem_singleton.mp ha];exact hp.1⟩,fun h=>?_,fun h=>?_⟩
 ·unfold dW;rw[if_neg h];exact⟨rfl,rfl⟩
 ·obtain⟨hM,h7,w7,hC⟩:=hp.at h
  have ok:=(nG h).2
  refine⟨⟨by omega,by have:=hM.2.2.1;omega⟩,fun h2=>?_,fun h2=>?_⟩
  ·unfold dW;rw[if_pos h,if_neg h2];exact⟨rfl,rfl⟩
  ·have hE:=zY hM w7 hC (by omega)
   have hN:isM (mq n) n.length n.length:=by rw[<-h2] at hM;exact hM
   refine⟨⟨vO ok,hE.1,by rw[WA,pV,h2]⟩,fun h3=>?_,fun h3=>⟨⟨vO ok,hE⟩,fun h4=>?_,fun h4=>?_⟩⟩
   ·unfold dW;rw[if_pos h,if_pos h2,if_neg (by rw[h3];decide)];exact⟨rfl,rfl⟩
   ·have h5:fK (mq n)=[]:=List.eq_nil_of_length_eq_zero (by omega)
    unfold dW;rw[if_pos h,if_pos h2,if_pos h3,if_pos h5];exact⟨rfl,rfl⟩
   ·have h5:fK (mq n)≠[]:=fun e=>h4 (by rw[e];rfl)
    refine⟨a9j hN h7 hC h5,?_⟩
    unfold dW;rw[if_pos h,if_pos h2,if_pos h3,if_neg h5];exact⟨rfl,rfl⟩
def FI (n g:MR):Int :=
 if fP n=0/\fP g=0 then if n.length=wdM n/\g.length=n.length then if wX (mq n) (mq g)=true then 0 else 12 else 4 else 1
def b2W:Ctr:=⟨[tMR,.pair tMR .unit],[tI],fun x=>smK 100 x.1/\smK 13000 x.2.1.1,fun x=>(FI x.1 x.2.1.1,())⟩
theorem PY:aT Tryz.prog 18 b2W:=by
 refine bT ((nil0.ad FQ).ad PZ) ⟨[],[],[]⟩ Tryz.func18 rfl (by decide) (fun x=>[]) (fun x hp=>?_)
 obtain⟨n,g,u⟩:=x
 change List (List aF) at n
 change List (List aF) × Unit at g
 refine bZ (let A₀:=(List.length (List.getD n 0 (aC aF)));let A₁:=(asT (List (List aF)) (Prod.fst g));let dU:=(Ty.list (Ty.lf Lf.dD));let A₂:=(List.map (fun(xs:Ty.den dU)=>List.map (fun(x:Ty.den (Ty.lf Lf.dD))=>aF.x x) xs) A₁);let bJ:=(List.map (fun(xs:Ty.den dU)=>List.map (fun(x:Ty.den (Ty.lf Lf.dD))=>aF.x x) xs) n);((List.length (n::asT (List (List aF)) (Prod.fst g)::aC (List (List aF)))<=1000000/\∀ (a:List (List aF)),a ∈ n::asT (List (List aF)) (Prod.fst g)::aC (List (List aF))->iF a)/\True)/\ifB (!fA (n::asT (List (List aF)) (Prod.fst g)::aC (List (List aF)))==0) (True/\1=FI n A₁/\True) ((asT Int 0<=0/\0<aA (List.length n)/\(((aA (List.length n) != aA A₀)==false)=true->((aA (List.length n) != aA A₀)==false)=true/\True)/\(((aA (List.length n) != aA A₀)==false)=true->((aA (List.length n) != aA A₀)==false)=true/\True)/\(((aA (List.length n) != aA A₀)==false)=true->((aA (List.length n) != aA A₀)==false)=true/\True)/\(((aA (List.length n) != aA A₀)==false)=true->((aA (List.length n) != aA A₀)==false)=true/\((aA (List.length n) != aA A₀)==false)=true/\True)/\((aA (List.length n) != aA A₀)=false->((aA (List.length n) != aA A₀)==false)=true)/\True)/\ifB (bif aA (List.length n) != aA A₀ then true else aA (List.length A₁) != aA (List.length n)) (True/\4=FI n A₁/\True) ((dO (fun(x:Ty.den dU)=>aV (dO (fun(x:Ty.den (Ty.lf Lf.dD))=>aV ((aF.ok x=true)::aC Prop)) x::aC Prop)) n/\dO (fun(x:Ty.den dU)=>aV (dO (fun(x:Ty.den (Ty.lf Lf.dD))=>aV ((aF.ok x=true)::aC Prop)) x::aC Prop)) A₁/\a5X bJ A₂/\True)/\ifB (!wX bJ A₂) (True/\12=FI n A₁/\True) (True/\0=FI n A₁/\True)))) (by kernel_rfl) ?_
 try dsimp only[Ty.den,Lf.den,asT] at *
 try simp only[NT,NS,trF,NU]
 have hZ:(⟨false,0,[],[]⟩:aF)=cZ:=rfl
 try dsimp only[aA,asT,aB,aC,Ty.den,Lf.den] at *
 try simp only[hZ,Int.toNat_natCast,bG,decide_eq_true_eq,decide_eq_false_iff_not,true_and,and_true,aH,nameAt,aW,aU,bK,rowAt,List.length_set,List.length_range]
 try simp only[rC,List.all_cons,List.all_nil,Bool.and_true,Bool.not_eq_true',Bool.not_eq_false',beq_iff_eq,bne_iff_ne,ne_eq,Bool.and_eq_true,Bool.and_eq_false_imp,beq_eq_false_iff_ne,bne_eq_false_iff_eq,Int.natCast_inj,imp_self,implies_true,and_self,true_and,and_true,mX,Bool.or_eq_true,Bool.or_eq_false_iff,List.length_cons,List.length_nil]
 have hp:smK 100 n/\smK 13000 g.1:=hp
 obtain⟨g,u2⟩:=g
 obtain⟨p1,p2⟩:=hp
 change smK 13000 g at p2
 have hwd:(n.getD 0 []).length=wdM n:=rfl
 rw[hwd]
 refine⟨⟨by omega,fun a ha=>?_⟩,fun h=>?_,fun h=>?_⟩
 ·rcases List.mem_cons.mp ha with rfl|ha
  ·exact p1.1
  ·rw[List.mem_singleton.mp ha];exact p2.1
 ·unfold FI;rw[if_neg (fun hh=>h hh.1 hh.2)]
 ·obtain⟨hM,h7,w7,hC⟩:=p1.at h.1
  obtain⟨gM,g7,x7,gC⟩:=p2.at h.2
  refine⟨⟨by omega,by have:=hM.2.2.1;omega⟩,fun h2=>?_,fun h2=>⟨⟨vO (nG h.1).2,vO (nG h.2).2,?_⟩,fun h3=>?_,fun h3=>?_⟩⟩
  ·unfold FI;rw[if_pos h,if_neg (fun hh=>h2.elim (fun h3=>h3 hh.1) (fun h3=>h3 hh.2))]
  ·exact⟨zY hM w7 hC (by omega),zY gM x7 gC (by omega),by rw[WA,pV,h2.1],by rw[pV,pV,h2.2],hC.sz (by omega),gC.sz (by omega)⟩
  ·unfold FI;rw[if_pos h,if_pos h2,if_neg (by rw[h3];decide)]
  ·unfold FI;rw[if_pos h,if_pos h2,if_pos h3]
def ZK (g b:MQ):Prop:=isM g g.length (wdM g)/\isM b g.length (wdM g)/\g.length<=7/\wdM g<=7/\CdM g 100/\CdM b 100
def AB (g b:MQ):MQ × Bool × Unit:=if yP (bgM g b)=true then (sM g b,true,()) else ([],false,())
structure c0i (g b:MQ) (N c:Nat):Prop where
 g1:isM g N c
 b1:isM b N c
 n7:N<=7
 c7:c<=7
 g2:CdM g 100
 b2:CdM b 100
 t1:isM (trM b) c N
 t2:CdM (trM b) 100
 m1:isM (bgM g b) c c
 m2:CdM (bgM g b) 207
 i1:isM (xA (bgM g b)) c c
 i2:CdM (xA (bgM g b)) 26752
 p1:isM (mulM (xA (bgM g b)) (trM b)) c N
 p2:CdM (mulM (xA (bgM g b)) (trM b)) 26860
 q1:isM (mulM g (mulM (xA (bgM g b)) (trM b))) N N
 q2:CdM (mulM g (mulM (xA (bgM g b)) (trM b))) 26970
 s1:isM (sM g b) N N
 s2:CdM (sM g b) 27000
theorem b4J {g b:MQ} (H:ZK g b):c0i g b g.length (wdM g):=by
 obtain⟨g1,b1,n7,c7,g2,b2⟩:=H
 have t1:=b1.trp
 have t2:=b2.trp b1
 have m1:=b0N g1 b1
 have m2:CdM (bgM g b) 207:=(t2.mul g2 t1 g1).mono (by omega)
 have i1:=m1.inv
 have h3:2 ^ wdM g*(207+2)<=128*209:=Nat.mul_le_mul (a3s c7) (Nat.le_refl _)
 have i2:CdM (xA (bgM g b)) 26752:=(m2.inv m1).mono (by omega)
 have p1:=i1.mul t1
 have p2:CdM (mulM (xA (bgM g b)) (trM b)) 26860:=(i2.mul t2 i1 t1).mono (by omega)
 have q1:=g1.mul p1
 have q2:CdM (mulM g (mulM (xA (bgM g b)) (trM b))) 26970:=(g2.mul p2 g1 p1).mono (by omega)
 have d1:=KQ g1.2.2.1 g1.2.2.2.1
 exact⟨g1,b1,n7,c7,g2,b2,t1,t2,m1,m2,i1,i2,p1,p2,q1,q2,b7O g1,(((a2y g1.2.2.1).sub q2 d1 q1).mono (by omega):CdM (sM g b) 27000)⟩
def b8y:Ctr:=⟨[tM,tM],[tM,tB],fun x=>ZK x.1 x.2.1,fun x=>AB x.1 x.2.1⟩
theorem a0E:aT Tryz.prog 60 b8y:=by
 refine bT (((((nil0.ad xZ).ad OH).ad a6d).ad b0u).ad a4E) ⟨[],[],[]⟩ Tryz.func60 rfl (by decide) (fun x=>[]) (fun x hp=>?_)
 obtain⟨g,b,u⟩:=x
 change List (List Rat) at g
 change List (List Rat) at b
 refine bZ (let A₂:=(tab (wdM b) (List.length b) (tr (ent b)));let A₁:=(tab (List.length A₂) (wdM g) (mm (List.length g) (ent A₂) (ent g)));let A₀:=(tab (List.length (Prod.fst (rE A₁))) (wdM A₂) (mm (List.length A₂) (ent (Prod.fst (rE A₁))) (ent A₂)));let bJ:=(tab (List.length g) (wdM A₀) (mm (List.length A₀) (ent g) (ent A₀)));let dU:=(idM (Int.toNat (aA (List.length g))));(okM b/\True)/\((okM A₂/\okM g/\wdM A₂=List.length g/\szM A₂ 1000000/\szM g 1000000)/\True)/\((okM A₁/\wdM A₁=List.length A₁/\DI (List.length A₁) (List.length A₁+List.length A₁) (jV (List.length A₁) (ent A₁) idm) (List.length A₁))/\True)/\ifB (Prod.fst (Prod.snd (rE A₁)) != 0) (True/\aC (List Rat)=Prod.fst (AB g b)/\True/\false=Prod.fst (Prod.snd (AB g b))/\True) (((okM (Prod.fst (rE A₁))/\okM A₂/\wdM (Prod.fst (rE A₁))=List.length A₂/\szM (Prod.fst (rE A₁)) 1000000/\szM A₂ 1000000)/\True)/\((okM g/\okM A₀/\wdM g=List.length A₀/\szM g 1000000/\szM A₀ 1000000)/\True)/\((1<=aA (List.length g)/\aA (List.length g)<=64)/\True)/\((okM dU/\okM bJ/\List.length dU=List.length bJ/\wdM dU=wdM bJ)/\True)/\True/\a2f dU bJ=Prod.fst (AB g b)/\True/\true=Prod.fst (Prod.snd (AB g b))/\True)) (by kernel_rfl) ?_
 try dsimp only[Ty.den,Lf.den,asT] at *
 try simp only[NT,NS,trF,NU]
 have hZ:(⟨false,0,[],[]⟩:aF)=cZ:=rfl
 try dsimp only[aA,asT,aB,aC,Ty.den,Lf.den] at *
 try simp only[hZ,Int.toNat_natCast,bG,decide_eq_true_eq,decide_eq_false_iff_not,true_and,and_true,aH,nameAt,aW,aU,bK,rowAt,List.length_set,List.length_range]
 try simp only[rC,List.all_cons,List.all_nil,Bool.and_true,Bool.not_eq_true',Bool.not_eq_false',beq_iff_eq,bne_iff_ne,ne_eq,Bool.and_eq_true,Bool.and_eq_false_imp,beq_eq_false_iff_ne,bne_eq_false_iff_eq,Int.natCast_inj,imp_self,implies_true,and_self,true_and,and_true,mX,Bool.or_eq_true,Bool.or_eq_false_iff,List.length_cons,List.length_nil]
 have F:=b4J (show ZK g b from hp)
 rw[show mulM (trM b) g=bgM g b from rfl]
 have l1:=F.m1.len
 have w1:=F.m1.wd
 have hg:=F.g1.2.2.1
 have h64:=F.n7
 refine⟨F.b2.ok F.b1 (by omega),⟨F.t2.ok F.t1 (by omega),F.g2.ok F.g1 (by omega),F.t1.wd,F.t2.sz (by omega),F.g2.sz (by omega)⟩,⟨F.m2.ok F.m1 (by omega),by rw[l1,w1],?_⟩,fun h=>?_,fun h=>?_⟩
 ·rw[l1]
  have h3:2 ^ wdM g*(207+1+1)<=128*209:=Nat.mul_le_mul (a3s F.c7) (Nat.le_refl _)
  exact OJ (F.m2.NQ F.m1) (by omega) (by omega)
 ·have e:yP (bgM g b)=false:=by
   cases hr:yP (bgM g b)
   ·rfl
   ·exfalso;apply h;unfold rE;rw[hr];rfl
  unfold AB;rw[e];exact⟨rfl,rfl⟩
 ·have e:yP (bgM g b)=true:=by
   cases hr:yP (bgM g b)
   ·exfalso;unfold rE at h;rw[hr,if_neg (by decide)] at h;exact absurd h (by decide)
   ·rfl
  have e2:rE (bgM g b)=(xA (bgM g b),0,()):=by unfold rE;rw[e];rfl
  have e3:AB g b=(sM g b,true,()):=by unfold AB;rw[e];rfl
  rw[e2,e3]
  refine⟨⟨F.i2.ok F.i1 (by omega),F.t2.ok F.t1 (by omega),F.i1.wd.trans F.t1.len.symm,F.i2.sz (by omega),F.t2.sz (by omega)⟩,⟨F.g2.ok F.g1 (by omega),F.p2.ok F.p1 (by omega),F.p1.len.symm,F.g2.sz (by omega),F.p2.sz (by omega)⟩,⟨by omega,by omega⟩,⟨(a2y hg).ok (KQ hg (by omega)) (by omega),F.q2.ok F.q1 (by omega),?_,?_⟩,rfl,rfl⟩
  ·rw[F.q1.len];exact(KQ hg (by omega)).len
  ·rw[F.q1.wd];exact(KQ hg (by omega)).wd
def b0M (s q:MQ):Prop:=isM s s.length s.length/\isM q s.length s.length/\s.length<=7/\CdM s 30000/\CdM q 50000
def b8u:Ctr:=⟨[tM,tM],[tM],fun x=>b0M x.1 x.2.1,fun x=>(mulM (mulM x.1 x.2.1) (trM x.1),())⟩
theorem a7N:aT Tryz.prog 69 b8u:=by
 refine bT ((nil0.ad xZ).ad OH) ⟨[],[],[]⟩ Tryz.func69 rfl (by decide) (fun x=>[]) (fun x hp=>?_)
 obtain⟨s,q,u⟩:=x
 change List (List Rat) at s
 change List (List Rat) at q
 refine bZ (let A₀:=(tab (List.length s) (wdM q) (mm (List.length q) (ent s) (ent q)));let A₁:=(tab (wdM s) (List.length s) (tr (ent s)));(okM s/\True)/\((okM s/\okM q/\wdM s=List.length q/\szM s 1000000/\szM q 1000000)/\True)/\((okM A₀/\okM A₁/\wdM A₀=List.length A₁/\szM A₀ 1000000/\szM A₁ 1000000)/\True)/\True/\tab (List.length A₀) (wdM A₁) (mm (List.length A₁) (ent A₀) (ent A₁))=mulM (mulM s q) (trM s)/\True) (by kernel_rfl) ?_
 try dsimp only[Ty.den,Lf.den,asT] at *
 try simp only[NT,NS,trF,NU]
 have hZ:(⟨false,0,[],[]⟩:aF)=cZ:=rfl
 try dsimp only[aA,asT,aB,aC,Ty.den,Lf.den] at *
 try simp only[hZ,Int.toNat_natCast,bG,decide_eq_true_eq,decide_eq_false_iff_not,true_and,and_true,aH,nameAt,aW,aU,bK,rowAt,List.length_set,List.length_range]
 try simp only[rC,List.all_cons,List.all_nil,Bool.and_true,Bool.not_eq_true',Bool.not_eq_false',beq_iff_eq,bne_iff_ne,ne_eq,Bool.and_eq_true,Bool.and_eq_false_imp,beq_eq_false_iff_ne,bne_eq_false_iff_eq,Int.natCast_inj,imp_self,implies_true,and_self,true_and,and_true,mX,Bool.or_eq_true,Bool.or_eq_false_iff,List.length_cons,List.length_nil]
 have hp:b0M s q:=hp
 obtain⟨s1,q1,n7,s2,q2⟩:=hp
 have t1:=s1.trp
 have t2:=s2.trp s1
 have m1:=s1.mul q1
 have m2:CdM (mulM s q) 80007:=(s2.mul q2 s1 q1).mono (by omega)
 exact⟨s2.ok s1 (by omega),⟨s2.ok s1 (by omega),q2.ok q1 (by omega),s1.wd.trans q1.len.symm,s2.sz (by omega),q2.sz (by omega)⟩,⟨m2.ok m1 (by omega),t2.ok t1 (by omega),m1.wd.trans t1.len.symm,m2.sz (by omega),t2.sz (by omega)⟩⟩
end Go.Proofs.YtgplhbhfdgempaaGreat
