/-
  Lemmas for the theorem vestimables_holds, part 31 of 36.
-/
import Derived.Test.YtgplhbhfdgempaaGreatQe30
namespace Go.Proofs.YtgplhbhfdgempaaGreat
open Go Go.RowKit
theorem qo:type_of% @Bool.or_eq_false_iff:=@Bool.or_eq_false_iff
theorem xu:type_of% @Bool.and_true:=@Bool.and_true
theorem qm:type_of% @Bool.and_eq_false_imp:=@Bool.and_eq_false_imp
theorem qw:type_of% @bne_eq_false_iff_eq:=@bne_eq_false_iff_eq
theorem uw:type_of% @Int.natCast_inj:=@Int.natCast_inj
theorem Ci:type_of% @imp_self:=@imp_self
theorem yw:type_of% @implies_true:=@implies_true
theorem Cj:type_of% @and_self:=@and_self
set_option maxRecDepth 100000
set_option maxHeartbeats 1000000
set_option linter.unusedVariables false
set_option linter.unusedSimpArgs false
def okR (l:LR):Bool:=!l.any (fun q=>!q.ok)
def c0X:Ctr:=⟨[.list tMR],[tB],fun x=>(show ML from x.1).length<=1000000/\∀ a ∈ (show ML from x.1),iL a,fun x=>(jG x.1==0,())⟩
def c0U:Ctr:=⟨[.list tR],[tB],fun x=>rY x.1,fun x=>(okR x.1,())⟩
theorem CB:aW Tryz.prog 49 c0X:=by
 refine bH (nil0.ad pJ) ⟨[],[],[]⟩ Tryz.func49 rfl (by decide) (fun x=>[.inv {k:Nat // k<=(show ML from x.1).length/\((show ML from x.1).take k).any (fun a=>eP a != 0)=false} (fun k=>[(7,.val tI (k.1:Int))]) (fun k=>[]) (fun k=>(show ML from x.1).length-k.1) ⟨0,by omega,rfl⟩ (fun _=>[])]) (fun x hp=>?_)
 obtain⟨x,u⟩:=x
 change List (List (List aF)) at x
 refine bP ((asT Int 0=0/\True)/\∀ (i:{ k:Nat // k<=List.length x/\(List.any (List.take k x) fun(a:List (List aF))=>eP a != 0)=false }),asT Bool true=true/\ifB (decide (aB (aA i)<aB x.length)) ((0<=aB (aA i)/\aB (aA i)<aB x.length/\True)/\(iL (List.getD x (aB (aA i)).toNat (aC (List aF)))/\True)/\ifB (eP (List.getD x (aB (aA i)).toNat (aC (List aF))) != 0) (True/\false=(jG x==0)/\True) (∃ (i':{ k:Nat // k<=List.length x/\(List.any (List.take k x) fun(a:List (List aF))=>eP a != 0)=false }),List.length x-aA i'<List.length x-aA i/\IntKind.wrap IntKind.i64 (aB (aA i)+1)=aB (aA i')/\True)) (True/\true=(jG x==0)/\True)) (by kernel_rfl) ?_
 have hZ:(⟨false,0,[],[]⟩:aF)=bU:=rfl
 dsimp only[aB,asT,aA,aC,Ty.den,Lf.den] at *
 simp only[hZ,Int.toNat_natCast,aT,ay,au,oh,ny,aH,nameAt,aV,aS,bF,rowAt,iw,gy]
 have hp:x.length<=1000000/\∀ a ∈ x,iL a:=hp
 obtain⟨hl,hb⟩:=hp
 refine fun i=>⟨fun h1=>⟨⟨by omega,h1⟩,dY hb (by omega),fun h2=>?_,fun h2=>⟨⟨i.1+1,by omega,?_⟩,by simp only;omega,?_⟩⟩,fun h1=>?_⟩
 ·have hi:i.1<x.length:=by omega
  have h3:x.any (fun a=>eP a != 0)=true:=vw.mpr ⟨x.getD i.1 [],by rw[bf,bn hi];exact jv hi,h2⟩
  unfold jG;rw[h3];rfl
 ·rw[mO (d:=[]) (by omega),i.2.2,h2];rfl
 ·rw[aZ (by omega) (by omega)];rfl
 ·have h3:=i.2.2
  rw[jd (by omega)] at h3
  unfold jG;rw[h3];rfl
theorem a2a:aW Tryz.prog 58 c0U:=by
 refine bH (nil0.ad b5M) ⟨[4],[],[]⟩ Tryz.func58 rfl (by decide) (fun x=>[.inv {k:Nat // k<=(show LR from x.1).length/\((show LR from x.1).take k).any (fun q=>!q.ok)=false} (fun k=>[(7,.val tI (k.1:Int))]) (fun k=>[]) (fun k=>(show LR from x.1).length-k.1) ⟨0,by omega,rfl⟩ (fun _=>[])]) (fun x hp=>?_)
 obtain⟨x,u⟩:=x
 change List aF at x
 refine bP ((asT Int 0=0/\True)/\∀ (i:{ k:Nat // k<=List.length x/\(List.any (List.take k x) fun(q:aF)=>!aF.ok q)=false }),asT Bool true=true/\ifB (decide (aB (aA i)<aB x.length)) ((0<=aB (aA i)/\aB (aA i)<aB x.length/\True)/\((aF.n (List.getD x (aB (aA i)).toNat bU)<=1000000000/\aF.m (List.getD x (aB (aA i)).toNat bU)<=1000000000)/\True)/\ifB (!aF.ok (List.getD x (aB (aA i)).toNat bU)) (True/\false=okR x/\True) (∃ (i':{ k:Nat // k<=List.length x/\(List.any (List.take k x) fun(q:aF)=>!aF.ok q)=false }),List.length x-aA i'<List.length x-aA i/\IntKind.wrap IntKind.i64 (aB (aA i)+1)=aB (aA i')/\True)) (True/\true=okR x/\True)) (by kernel_rfl) ?_
 have hZ:(⟨false,0,[],[]⟩:aF)=bU:=rfl
 dsimp only[aB,asT,aA,aC,Ty.den,Lf.den] at *
 simp only[hZ,Int.toNat_natCast,aT,ay,au,oh,ny,aH,nameAt,aV,aS,bF,rowAt,iw,gy]
 have hp:rY x:=hp
 obtain⟨hl,hb⟩:=hp
 refine fun i=>⟨fun h1=>⟨⟨by omega,h1⟩,dY hb (by omega),fun h2=>?_,fun h2=>⟨⟨i.1+1,by omega,?_⟩,by simp only;omega,?_⟩⟩,fun h1=>?_⟩
 ·have hi:i.1<x.length:=by omega
  have h3:x.any (fun q=>!q.ok)=true:=vw.mpr ⟨x.getD i.1 bU,by rw[bf,bn hi];exact jv hi,h2⟩
  unfold okR;rw[h3];rfl
 ·rw[mO (d:=bU) (by omega),i.2.2,h2];rfl
 ·rw[aZ (by omega) (by omega)];rfl
 ·have h3:=i.2.2
  rw[jd (by omega)] at h3
  unfold okR;rw[h3];rfl
def LV (a:MR) (r c:Int):Bool:=((a.length:Int)==r)&&((wdM a:Int)==c)
def b5T:Ctr:=⟨[tMR,tI,tI],[tB],fun x=>0<(show MR from x.1).length,fun x=>(LV x.1 x.2.1 x.2.2.1,())⟩
theorem XP:aW Tryz.prog 59 b5T:=by
 refine bH nil0 ⟨[],[],[]⟩ Tryz.func59 rfl (by decide) (fun x=>[]) (fun x hp=>?_)
 obtain⟨a,r,c,u⟩:=x
 change List (List aF) at a
 change Int at r
 change Int at c
 refine bP (let A₀:=((aB a.length==r)==true);let A₁:=(A₀=true->A₀=true/\True);((A₀=true->A₀=true/\asT Int 0<=0/\0<aB a.length/\True)/\A₁/\A₁/\(A₀=true->A₀=true/\A₀=true/\True)/\((aB a.length==r)=true->A₀=true)/\True)/\True/\(bif aB a.length==r then aB (List.getD a 0 (aC aF)).length==c else false)=LV a r c/\True) (by kernel_rfl) ?_
 have hZ:(⟨false,0,[],[]⟩:aF)=bU:=rfl
 dsimp only[aB,asT,aA,aC,Ty.den,Lf.den] at *
 simp only[hZ,Int.toNat_natCast,aT,ay,au,oh,ny,aH,nameAt,aV,aS,bF,rowAt,iw,gy]
 have hp:0<a.length:=hp
 refine⟨⟨fun h=>⟨h,by omega,by omega⟩,fun h=>h,fun h=>h,fun h=>⟨h,h⟩,fun h=>by rw[h];rfl⟩,?_⟩
 unfold LV
 cases ((a.length:Int)==r)<;>rfl
def c0Z:Ctr:=⟨[tM],[tB],fun x=>okM x.1/\wdM (show MQ from x.1)=(show MQ from x.1).length,fun x=>(tY x.1,())⟩
theorem a2f:aW Tryz.prog 50 c0Z:=by
 refine bH (nil0.ad c2T) ⟨[],[],[]⟩ Tryz.func50 rfl (by decide) (fun x=>[.inv {k:Nat // k<=(show MQ from x.1).length/\∀ i,i<k->∀ j,j<i->ent (show MQ from x.1) i j=ent (show MQ from x.1) j i} (fun k=>[(7,.val tI (k.1:Int))]) (fun k=>[]) (fun k=>(show MQ from x.1).length-k.1) ⟨0,by omega,fun i h=>absurd h (by omega)⟩ (fun k=>[.inv {c:Nat // c<=k.1/\∀ j,j<c->ent (show MQ from x.1) k.1 j=ent (show MQ from x.1) j k.1} (fun c=>[(11,.val tI (c.1:Int))]) (fun c=>[]) (fun c=>k.1-c.1) ⟨0,by omega,fun i h=>absurd h (by omega)⟩ (fun _=>[])])]) (fun x hp=>?_)
 obtain⟨a,u⟩:=x
 change List (List Rat) at a
 refine bP ((asT Int 0=0/\True)/\∀ (i:{ k:Nat // k<=List.length a/\∀ (i:Nat),i<k->∀ (j:Nat),j<i->ent a i j=ent a j i }),let A₁:=(aB (aA i)).toNat;let A₀:=(List.getD a A₁ (aC Rat));asT Bool true=true/\ifB (decide (aB (aA i)<aB a.length)) ((asT Int 0=0/\True)/\∀ (i_1:{ c:Nat // c<=aA i/\∀ (j:Nat),j<c->ent a (aA i) j=ent a j (aA i) }),let A₂:=(aB (aA i_1)).toNat;let aQ:=(List.getD a A₂ (aC Rat));asT Bool true=true/\ifB (decide (aB (aA i_1)<aB (aA i))) ((0<=aB (aA i)/\aB (aA i)<aB a.length/\0<=aB (aA i_1)/\aB (aA i_1)<aB A₀.length/\0<=aB (aA i_1)/\aB (aA i_1)<aB a.length/\0<=aB (aA i)/\aB (aA i)<aB aQ.length/\s44 (List.getD A₀ A₂ 0) (List.getD aQ A₁ 0)/\True)/\ifB (MO (List.getD A₀ A₂ 0) (List.getD aQ A₁ 0) != 0) (True/\false=tY a/\True) (∃ (i':{ c:Nat // c<=aA i/\∀ (j:Nat),j<c->ent a (aA i) j=ent a j (aA i) }),aA i-aA i'<aA i-aA i_1/\IntKind.wrap IntKind.i64 (aB (aA i_1)+1)=aB (aA i')/\True)) (∃ (i':{ k:Nat // k<=List.length a/\∀ (i:Nat),i<k->∀ (j:Nat),j<i->ent a i j=ent a j i }),List.length a-aA i'<List.length a-aA i/\IntKind.wrap IntKind.i64 (aB (aA i)+1)=aB (aA i')/\True)) (True/\true=tY a/\True)) (by kernel_rfl) ?_
 have hZ:(⟨false,0,[],[]⟩:aF)=bU:=rfl
 dsimp only[aB,asT,aA,aC,Ty.den,Lf.den] at *
 simp only[hZ,Int.toNat_natCast,aT,ay,au,oh,ny,aH,nameAt,aV,aS,bF,rowAt,iw,gy]
 have hp:okM a/\wdM a=a.length:=hp
 obtain⟨ha,hw⟩:=hp
 have q1:=ha.r64
 refine fun i=>⟨fun h1=>fun j=>⟨fun h2=>?_,fun h2=>⟨⟨i.1+1,by omega,fun k hk c hc=>?_⟩,by simp only;omega,?_⟩⟩,fun h1=>?_⟩
 ·have hi:i.1<a.length:=by omega
  have hj:j.1<i.1:=by omega
  have r1:=ha.row hi
  have r2:=ha.row (show j.1<a.length by omega)
  have z1:=ha.2 i.1 hi j.1 (by omega)
  have z2:=ha.2 j.1 (by omega) i.1 (by omega)
  rw[r1,r2]
  have e:MO ((a.getD i.1 []).getD j.1 0) ((a.getD j.1 []).getD i.1 0)=0↔ent a i.1 j.1=ent a j.1 i.1:=SG _ _
  refine⟨⟨by omega,by omega,by omega,by omega,by omega,by omega,by omega,by omega,⟨jg z1 (by omega),jg z2 (by omega)⟩⟩,fun h3=>?_,fun h3=>⟨⟨j.1+1,by omega,fun c hc=>?_⟩,by simp only;omega,?_⟩⟩
  ·refine(oq fun h=>?_).symm
   have:=e.mpr (h i.1 hi j.1 (by omega))
   rw[this] at h3;exact absurd h3 (by decide)
  ·by_cases h4:c<j.1
   ·exact j.2.2 c h4
   ·rw[show c=j.1 by omega];exact e.mp (by simpa using h3)
  ·rw[aZ (by omega) (by omega)];rfl
 ·by_cases h4:k<i.1
  ·exact i.2.2 k h4 c hc
  ·have:k=i.1:=by omega
   subst this
   exact j.2.2 c (by omega)
 ·rw[aZ (by omega) (by omega)];rfl
 ·refine(pz fun k hk c hc=>?_).symm
  rcases Nat.lt_trichotomy k c with h|h|h
  ·exact(i.2.2 c (by omega) k h).symm
  ·rw[h]
  ·exact i.2.2 k (by omega) c h
def a0G (n g:MQ):Prop:=okE n/\okE g/\wdM n=n.length/\g.length=n.length/\szM n 1000000/\szM g 1000000
theorem a1m (a:MQ):rkM a<=a.length:=(jD a.length (ent a) (wdM a)).le
theorem b6T {a b:MQ} {R C:Nat} (sa:szM a 1000000) (sb:szM b 1000000) (hM:isM (mulM a b) R C) (hw:wdM a=b.length) (h64:b.length<=64) {i j:Nat} (hi:i<R) (hj:j<C):rsz (ent (mulM a b) i j)<=128000065:=by
 have l1:(mulM a b).length=a.length:=bF
 have hi2:i<a.length:=by have:=hM.len;omega
 have l2:wdM (mulM a b)=wdM b:=VX (by omega)
 have hj2:j<wdM b:=by have:=hM.wd;omega
 unfold mulM
 rw[mF hi2 hj2]
 have:=xH (K:=2000000) (f:=fun k=>ent a i k*ent b k j) b.length (fun k hk=>by
  have y1:=sa i hi2 k (by omega)
  have y2:=sb k hk j hj2
  have y3:=lS (ent a i k) (ent b k j)
  show rsz (ent a i k*ent b k j)<=_
  omega)
 have y4:b.length*(2000000+1)<=64*2000001:=ou h64 (aj _)
 show rsz (sm b.length fun k=>ent a i k*ent b k j)<=_
 omega
def c0W:Ctr:=⟨[tM,tM],[tB],fun x=>a0G x.1 x.2.1,fun x=>(rG x.1 x.2.1,())⟩
theorem SQ:aW Tryz.prog 57 c0W:=by
 refine bH ((((nil0.ad ZX).ad QV).ad b1x).ad a2f) ⟨[10],[],[]⟩ Tryz.func57 rfl (by decide) (fun x=>[.inv {k:Nat // k<=(mulM (show MQ from x.1) (show MQ from x.2.1)).length/\∀ i,i<k->∀ j,j<wdM (mulM (show MQ from x.1) (show MQ from x.2.1))->ent (mulM (show MQ from x.1) (show MQ from x.2.1)) i j=0} (fun k=>[(26,.val tI (k.1:Int))]) (fun k=>[]) (fun k=>(mulM (show MQ from x.1) (show MQ from x.2.1)).length-k.1) ⟨0,by omega,fun i h=>absurd h (by omega)⟩ (fun k=>[.inv {c:Nat // c<=wdM (mulM (show MQ from x.1) (show MQ from x.2.1))/\∀ j,j<c->ent (mulM (show MQ from x.1) (show MQ from x.2.1)) k.1 j=0} (fun c=>[(32,.val tI (c.1:Int))]) (fun c=>[]) (fun c=>wdM (mulM (show MQ from x.1) (show MQ from x.2.1))-c.1) ⟨0,by omega,fun i h=>absurd h (by omega)⟩ (fun _=>[])])]) (fun x hp=>?_)
 obtain⟨a,b,u⟩:=x
 change List (List Rat) at a
 change List (List Rat) at b
 refine bP (let A₁:=(tab a.length (wdM b) (mm b.length (ent a) (ent b)));let A₂:=(List.getD b 0 (aC Rat)).length;let A₀:=((aB (rkM b)==aB A₂)==true);let aQ:=(A₀=true->A₀=true/\A₀=true/\True);let bK:=(True/\false=rG a b/\True);((okM a/\wdM a=List.length a)/\True)/\ifB (!tY a) bK (((okM a/\okM b/\wdM a=List.length b/\szM a 1000000/\szM b 1000000)/\True)/\(asT Int 0=0/\True)/\∀ (i:{ k:Nat // k<=List.length (mulM a b)/\∀ (i:Nat),i<k->∀ (j:Nat),j<wdM (mulM a b)->ent (mulM a b) i j=0 }),let bZ:=(List.getD A₁ (aB (aA i)).toNat (aC Rat));asT Bool true=true/\ifB (decide (aB (aA i)<aB A₁.length)) ((0<=aB (aA i)/\aB (aA i)<aB A₁.length/\True)/\(asT Int 0=0/\True)/\∀ (i_1:{ c:Nat // c<=wdM (mulM a b)/\∀ (j:Nat),j<c->ent (mulM a b) (aA i) j=0 }),let dJ:=(List.getD bZ (aB (aA i_1)).toNat 0);asT Bool true=true/\ifB (decide (aB (aA i_1)<aB bZ.length)) ((0<=aB (aA i_1)/\aB (aA i_1)<aB bZ.length/\True)/\(rsz dJ<=1000000000/\True)/\ifB (sgn (Rat.num dJ) != 0) bK (∃ (i':{ c:Nat // c<=wdM (mulM a b)/\∀ (j:Nat),j<c->ent (mulM a b) (aA i) j=0 }),wdM (mulM a b)-aA i'<wdM (mulM a b)-aA i_1/\IntKind.wrap IntKind.i64 (aB (aA i_1)+1)=aB (aA i')/\True)) (∃ (i':{ k:Nat // k<=List.length (mulM a b)/\∀ (i:Nat),i<k->∀ (j:Nat),j<wdM (mulM a b)->ent (mulM a b) i j=0 }),List.length (mulM a b)-aA i'<List.length (mulM a b)-aA i/\IntKind.wrap IntKind.i64 (aB (aA i)+1)=aB (aA i')/\True)) ((okE a/\True)/\(okE b/\True)/\(asT Int 0<=0/\0<aB b.length/\(A₀=true->A₀=true/\True)/\aQ/\aQ/\((aB (rkM b)==aB A₂)=true->A₀=true)/\True)/\True/\(bif aB (rkM b)==aB A₂ then aB (rkM b)==IntKind.wrap IntKind.i64 (aB a.length-aB (rkM a)) else false)=rG a b/\True))) (by kernel_rfl) ?_
 have hZ:(⟨false,0,[],[]⟩:aF)=bU:=rfl
 dsimp only[aB,asT,aA,aC,Ty.den,Lf.den] at *
 simp only[hZ,Int.toNat_natCast,aT,ay,au,oh,ny,aH,nameAt,aV,aS,bF,rowAt,iw,gy]
 have hp:a0G a b:=hp
 obtain⟨ea,eb,hw,hl,sa,sb⟩:=hp
 have ha:=ea.1
 have hb:=eb.1
 have q1:=ha.r64
 have q2:=hb.r64
 have q3:=hb.c64
 have q4:=hb.pos
 have ra:rkM a<=a.length:=a1m a
 have rb:rkM b<=b.length:=a1m b
 have hwb:(b.getD 0 []).length=wdM b:=rfl
 have hM:isM (mulM a b) a.length (wdM b):=ha.1.mul (by have:=hb.1;rwa [hl,<-hw] at this)
 have hm:tab a.length (wdM b) (mm b.length (ent a) (ent b))=mulM a b:=rfl
 have e1:(mulM a b).length=a.length:=hM.len
 have e2:wdM (mulM a b)=wdM b:=hM.wd
 rw[hwb,hm]
 simp only[e1,e2]
 refine⟨⟨ha,hw⟩,fun h1=>?_,fun h1=>⟨⟨ha,hb,by omega,sa,sb⟩,fun i=>⟨fun h2=>⟨⟨by omega,h2⟩,fun j=>?_⟩,fun h2=>?_⟩⟩⟩
 ·have h1:tY a=false:=by simpa using h1
  unfold rG;rw[h1];rfl
 ·have hi:i.1<a.length:=by omega
  have hr:=hM.row hi
  rw[hr]
  refine⟨fun h3=>?_,fun h3=>⟨⟨i.1+1,by omega,fun k hk c hc=>?_⟩,by simp only;omega,?_⟩⟩
  ·have hj:j.1<wdM b:=by omega
   refine⟨⟨by omega,by omega⟩,?_,fun h4=>?_,fun h4=>⟨⟨j.1+1,by omega,fun c hc=>?_⟩,by simp only;omega,?_⟩⟩
   ·have z:=b6T sa sb hM (by omega) (by omega) hi hj
    exact jg z (by omega)
   ·have h5:rG a b=false:=by
     unfold rG
     rw[show IB (mulM a b)=false from oq fun h=>by
      have:ent (mulM a b) i.1 j.1=0:=h i.1 (by omega) j.1 (by omega)
      rw[show ((mulM a b).getD i.1 []).getD j.1 0=0 from this] at h4
      revert h4;decide]
     rw[Bool.and_false];rfl
    exact h5.symm
   ·by_cases h5:c<j.1
    ·exact j.2.2 c h5
    ·rw[show c=j.1 by omega];exact a7g h4
   ·rw[aZ (by omega) (by omega)];rfl
  ·by_cases h4:k<i.1
   ·exact i.2.2 k h4 c hc
   ·have:k=i.1:=by omega
    subst this
    exact j.2.2 c (by omega)
  ·rw[aZ (by omega) (by omega)];rfl
 ·refine⟨ea,eb,⟨by omega,by omega,fun h=>h,fun h=>⟨h,h⟩,fun h=>⟨h,h⟩,fun h=>by rw[h];rfl⟩,?_⟩
  have h1:tY a=true:=by simpa using h1
  have hz:IB (mulM a b)=true:=pz fun k hk c hc=>i.2.2 k (by omega) c (by omega)
  unfold rG
  rw[h1,hz,aZ (by omega) (by omega)]
  by_cases h3:rkM b=wdM b
  ·rw[show (((rkM b:Nat):Int)==((wdM b:Nat):Int))=true by rw[h3];exact beq_self_eq_true _,pz h3]
   show (((rkM b:Nat):Int)==(a.length:Int)-(rkM a:Int))=decide (rkM b+rkM a=a.length)
   by_cases h4:rkM b+rkM a=a.length
   ·rw[pz h4];exact ji.mpr (by omega)
   ·rw[oq h4];exact jo.mpr (by omega)
  ·rw[show (((rkM b:Nat):Int)==((wdM b:Nat):Int))=false from jo.mpr (by omega),oq h3];rfl
def lq (l:LR):LQ':=List.map (fun q:aF=>q.x) l
def mq (a:MR):MQ:=List.map (fun r:LR=>lq r) a
def smK (K:Nat) (a:MR):Prop:=iL a/\(eP a=0->a.length<=7/\wdM a<=7/\CdM (mq a) K)
theorem pO (a:MR):(mq a).length=a.length:=by unfold mq;exact uj _
theorem DC (l:LR):(lq l).length=l.length:=by unfold lq;exact uj _
theorem yH (a:MR):List.map (fun r:List aF=>lq r) a=mq a:=rfl
theorem yA (l:LR):List.map (fun q:aF=>q.x) l=lq l:=rfl
theorem a4F {a:MR} (i:Nat):(mq a).getD i []=lq (a.getD i []):=by
 unfold mq
 simp only[bf,Ae]
 cases a[i]?<;>rfl
theorem a3b (a:MR):wdM (mq a)=wdM a:=by
 show ((mq a).getD 0 []).length=(a.getD 0 []).length
 rw[a4F,DC]
theorem b3Z (a:MQ):mq (liftM a)=a:=by
 unfold mq lq
 rw[List.map_map]
 conv=>rhs;rw[<-List.map_id a]
 refine jl fun r _=>?_
 show List.map (fun q:aF=>q.x) (List.map (fun x=>fD x) r)=r
 rw[List.map_map]
 conv=>rhs;rw[<-List.map_id r]
 exact jl fun x _=>rfl
theorem kY {a:MR} (h:eP a=0):isM (mq a) a.length (wdM a)/\∀ r ∈ a,∀ q ∈ r,q.ok=true:=by
 unfold eP at h
 split at h
 ·next hh =>
  obtain⟨h1,h2,h3,h4,h5⟩:=hh
  have h6:∀ r ∈ a,r.length=wdM a/\∀ q ∈ r,q.ok=true:=fun r hr=>by
   have h7:=yj.mp h5 r hr
   unfold badR at h7
   rw[Bool.not_eq_true,qo] at h7
   refine⟨by simpa using h7.1,fun q hq=>?_⟩
   have:=yj.mp h7.2 q hq
   simpa using this
  refine⟨⟨pO a,fun r hr=>?_,h1,h2,h3,h4⟩,fun r hr=>(h6 r hr).2⟩
  obtain⟨s,hs,rfl⟩:=ug.mp hr
  rw[DC];exact(h6 s hs).1
 ·cases h
theorem tZ {a:MR} (h:∀ r ∈ a,∀ q ∈ r,q.ok=true):eH (fun x:List aF=>bY [eH (fun q:aF=>bY [q.ok=true]) x]) a:=lX.mpr fun r hr=>⟨lX.mpr fun q hq=>⟨h r hr q hq,trivial⟩,trivial⟩
theorem smK.at {K:Nat} {a:MR} (H:smK K a) (h:eP a=0):isM (mq a) a.length (wdM a)/\a.length<=7/\wdM a<=7/\CdM (mq a) K:=⟨(kY h).1,H.2 h⟩
theorem a3i {C:Nat} (h:C<=7):2 ^ C<=128:=yc (n:=2) (by omega) h
theorem NU {a:MQ} {R C K:Nat} (h:isM a R C) (hc:C<=7) (H:CdM a K) (hK:K<=70000):okE a:=by
 refine⟨H.ok h (by omega),QX H (aj _) ?_⟩
 have h1:=ou (a3i (C:=wdM a) (by rw[h.wd];exact hc)) (show K+1<=70001 by omega)
 omega
theorem kX (l:ML):(jG l==0)=l.all (fun a=>eP a==0):=by
 unfold jG
 cases h:l.any (fun a=>eP a != 0)
 ·rw[iq (by decide)]
  refine(xk.mpr fun a ha=>?_).symm
  have:=yj.mp h a ha
  simpa using this
 ·rw[ig rfl]
  obtain⟨a,ha,hb⟩:=vw.mp h
  exact(List.all_eq_false.mpr ⟨a,ha,by simpa using hb⟩).symm
theorem jC (a b:Bool):(bif a then true else b)=(a || b):=by cases a<;>rfl
theorem yI (a b:MQ):tab a.length (wdM b) (mm b.length (ent a) (ent b))=mulM a b:=rfl
theorem trF (a:MQ):tab (wdM a) a.length (tr (ent a))=trM a:=rfl
theorem CdM.mono {a:MQ} {K L:Nat} (H:CdM a K) (h:K<=L):CdM a L:=Cd.mono H h
theorem a9S {N s:Nat} {p:List Nat} (h:s<(frees N p).length):(frees N p).getD s 0<N:=by
 rw[a9W h]
 have:=jv h
 unfold frees at this
 exact vk.mp (List.mem_filter.mp this).1
theorem a9l {e:Mt} {N K:Nat} (H:Cd (red N e N).1 N N K) (hK:1<=K):Cd (b5E N e) N (frees N (red N e N).2).length K:=by
 have E:=jD N e N
 have hle:=E.le
 obtain⟨D,d1,d2,d3⟩:=H
 refine⟨D,d1,d2,fun i hi s hs=>?_⟩
 have hj:=a9S hs
 show ∃ z:Int,QF (red N e N).1 (red N e N).2 ((frees N (red N e N).2).getD s 0) i*(D:Nat)=(z:Int)/\isz z<=K
 unfold QF
 split
 ·exact⟨(D:Nat),by rw[Rat.one_mul];rfl,by unfold isz;simpa using d2⟩
 ·split
  ·next h1 h2 =>
   obtain⟨z,z1,z2⟩:=d3 ((red N e N).2.idxOf i) (by have:=List.idxOf_lt_length_of_mem h2;omega) _ hj
   exact⟨-z,by rw[Rat.neg_mul,z1,Rat.intCast_neg],by rw[nU];exact z2⟩
  ·exact⟨0,by rw[Rat.zero_mul];rfl,by rw[KP];omega⟩
theorem a4I {n:MQ} {N:Nat} (hn:isM n N N) (h7:N<=7) (H:CdM n 100) (h:sU n≠[]):isM (sU n) (sU n).length N/\CdM (sU n) 13000/\(sU n).length<=7:=by
 have E:=jD N (ent n) N
 have h1:=a9R E.nd E.lt
 have h2:1<=(frees N (red N (ent n) N).2).length:=by
  rcases yu (frees N (red N (ent n) N).2).length with e|e
  ·exact absurd (by rw[YT hn,e];rfl) h
  ·exact e
 have H2:Cd (ent n) N N 100:=by have:=H;unfold CdM at this;rwa [hn.len,hn.wd] at this
 have h3:2 ^ N*(100+1)<=128*101:=ou (a3i h7) (aj _)
 have h4:1<=2 ^ N:=Nat.one_le_two_pow
 have h5:1*101<=2 ^ N*(100+1):=ou h4 (aj _)
 have H3:=a9l (H2.red N (aj N)) (by omega)
 rw[YT hn,bF]
 exact⟨uN h2 (by omega) hn.2.2.1 hn.2.2.2.1,(JJ h2 (Cd.tr H3)).mono (by omega),by omega⟩
theorem b1h {n:MQ} {N:Nat} (hn:isM n N N) (h7:N<=7) (H:CdM n 100) (h:sU n≠[]):okM (sU n):=by
 obtain⟨h1,h2,_⟩:=a4I hn h7 H h
 exact h2.ok h1 (by omega)
def BF (n:MR):(MQ × Unit) × Int × Unit :=
 if eP n=0 then if n.length=wdM n then if tY (mq n)=true then if sU (mq n)=[] then (([],()),6,()) else ((trM (sU (mq n)),()),0,()) else (([],()),12,()) else (([],()),4,()) else (([],()),1,())
def a9f:Ctr:=⟨[tMR],[.pair tM .unit,tI],fun x=>smK 100 x.1,fun x=>BF x.1⟩
theorem XO:aW Tryz.prog 11 a9f:=by
 refine bH ((((nil0.ad vX).ad a8h).ad CB).ad a2f) ⟨[2],[],[]⟩ Tryz.func11 rfl (by decide) (fun x=>[]) (fun x hp=>?_)
 obtain⟨n,u⟩:=x
 change List (List aF) at n
 refine bP (let A₀:=(fun(xs:Ty.den (Ty.list (Ty.lf Lf.dG)))=>List.map (fun(x:Ty.den (Ty.lf Lf.dG))=>aF.x x) xs);let A₁:=(fun(x:Ty.den (Ty.list (Ty.lf Lf.dG)))=>bY (eH (fun(x:Ty.den (Ty.lf Lf.dG))=>bY ((aF.ok x=true)::aC Prop)) x::aC Prop));let A₂:=(List.map A₀ (aC (List aF)),());let aQ:=(sU (List.map A₀ n));let bK:=(n::aC (List (List aF)));((List.length bK<=1000000/\∀ (a:List (List aF)),a ∈ n::aC (List (List aF))->iL a)/\True)/\ifB (!jG bK==0) ((True/\True)/\A₂=Prod.fst (BF n)/\True/\1=Prod.fst (BF n).2/\True) ((asT Int 0<=0/\0<aB n.length/\True)/\ifB (aB n.length != aB (List.getD n 0 (aC aF)).length) ((True/\True)/\A₂=Prod.fst (BF n)/\True/\4=Prod.fst (BF n).2/\True) ((eH A₁ n/\(okM (List.map A₀ n)/\wdM (List.map A₀ n)=List.length (List.map A₀ n))/\True)/\ifB (!tY (List.map A₀ n)) ((True/\True)/\A₂=Prod.fst (BF n)/\True/\12=Prod.fst (BF n).2/\True) ((eH A₁ n/\okE (List.map A₀ n)/\True)/\ifB (aB aQ.length==0) ((True/\True)/\A₂=Prod.fst (BF n)/\True/\6=Prod.fst (BF n).2/\True) ((okM aQ/\True)/\True/\(tab (wdM aQ) aQ.length (tr (ent aQ)),())=Prod.fst (BF n)/\True/\0=Prod.fst (BF n).2/\True))))) (by kernel_rfl) ?_
 try dsimp only[Ty.den,Lf.den,asT] at *
 try simp only[yH,yA,trF,yI]
 have hZ:(⟨false,0,[],[]⟩:aF)=bU:=rfl
 try dsimp only[aB,asT,aA,aC,Ty.den,Lf.den] at *
 try simp only[hZ,Int.toNat_natCast,aT,ay,au,oh,ny,aH,nameAt,aV,aS,bF,rowAt,iw,gy]
 try simp only[kX,List.all_cons,List.all_nil,xu,mg,tu,ji,uy,ne_eq,ak,qm,jo,qw,uw,Ci,yw,Cj,oh,ny,jC,uf,qo,List.length_cons,List.length_nil]
 have hp:smK 100 n:=hp
 have hwd:(n.getD 0 []).length=wdM n:=rfl
 rw[hwd]
 refine⟨⟨by omega,fun a ha=>by rw[qh.mp ha];exact hp.1⟩,fun h=>?_,fun h=>?_⟩
 ·unfold BF;rw[iq h];exact⟨rfl,rfl⟩
 ·obtain⟨hM,h7,w7,hC⟩:=hp.at h
  have ok:=(kY h).2
  refine⟨⟨by omega,by have:=hM.2.2.1;omega⟩,fun h2=>?_,fun h2=>?_⟩
  ·unfold BF;rw[ig h,iq h2];exact⟨rfl,rfl⟩
  ·have hE:=NU hM w7 hC (by omega)
   have hN:isM (mq n) n.length n.length:=by rw[<-h2] at hM;exact hM
   refine⟨⟨tZ ok,hE.1,by rw[a3b,pO,h2]⟩,fun h3=>?_,fun h3=>⟨⟨tZ ok,hE⟩,fun h4=>?_,fun h4=>?_⟩⟩
   ·unfold BF;rw[ig h,ig h2,iq (by rw[h3];decide)];exact⟨rfl,rfl⟩
   ·have h5:sU (mq n)=[]:=oz (by omega)
    unfold BF;rw[ig h,ig h2,ig h3,ig h5];exact⟨rfl,rfl⟩
   ·have h5:sU (mq n)≠[]:=fun e=>h4 (by rw[e];rfl)
    refine⟨b1h hN h7 hC h5,?_⟩
    unfold BF;rw[ig h,ig h2,ig h3,iq h5];exact⟨rfl,rfl⟩
def SC (n g:MR):Int :=
 if eP n=0/\eP g=0 then if n.length=wdM n/\g.length=n.length then if rG (mq n) (mq g)=true then 0 else 12 else 4 else 1
def b5j:Ctr:=⟨[tMR,.pair tMR .unit],[tI],fun x=>smK 100 x.1/\smK 13000 x.2.1.1,fun x=>(SC x.1 x.2.1.1,())⟩
theorem a2b:aW Tryz.prog 18 b5j:=by
 refine bH ((nil0.ad CB).ad SQ) ⟨[],[],[]⟩ Tryz.func18 rfl (by decide) (fun x=>[]) (fun x hp=>?_)
 obtain⟨n,g,u⟩:=x
 change List (List aF) at n
 change List (List aF) × Unit at g
 refine bP (let A₁:=(fun(xs:Ty.den (Ty.list (Ty.lf Lf.dG)))=>List.map (fun(x:Ty.den (Ty.lf Lf.dG))=>aF.x x) xs);let A₂:=(asT (List (List aF)) g.1);let aQ:=(fun(x:Ty.den (Ty.list (Ty.lf Lf.dG)))=>bY (eH (fun(x:Ty.den (Ty.lf Lf.dG))=>bY ((aF.ok x=true)::aC Prop)) x::aC Prop));let bK:=(List.getD n 0 (aC aF)).length;let bZ:=(n::asT (List (List aF)) g.1::aC (List (List aF)));let dS:=(aB n.length != aB bK);let A₀:=(dS==false);let dJ:=(A₀=true->A₀=true/\True);((List.length bZ<=1000000/\∀ (a:List (List aF)),a ∈ n::asT (List (List aF)) g.1::aC (List (List aF))->iL a)/\True)/\ifB (!jG bZ==0) (True/\1=SC n A₂/\True) ((asT Int 0<=0/\0<aB n.length/\dJ/\dJ/\dJ/\(A₀=true->A₀=true/\A₀=true/\True)/\(dS=false->A₀=true)/\True)/\ifB (bif aB n.length != aB bK then true else aB A₂.length != aB n.length) (True/\4=SC n A₂/\True) ((eH aQ n/\eH aQ A₂/\a0G (List.map A₁ n) (List.map A₁ A₂)/\True)/\ifB (!rG (List.map A₁ n) (List.map A₁ A₂)) (True/\12=SC n A₂/\True) (True/\0=SC n A₂/\True)))) (by kernel_rfl) ?_
 try dsimp only[Ty.den,Lf.den,asT] at *
 try simp only[yH,yA,trF,yI]
 have hZ:(⟨false,0,[],[]⟩:aF)=bU:=rfl
 try dsimp only[aB,asT,aA,aC,Ty.den,Lf.den] at *
 try simp only[hZ,Int.toNat_natCast,aT,ay,au,oh,ny,aH,nameAt,aV,aS,bF,rowAt,iw,gy]
 try simp only[kX,List.all_cons,List.all_nil,xu,mg,tu,ji,uy,ne_eq,ak,qm,jo,qw,uw,Ci,yw,Cj,oh,ny,jC,uf,qo,List.length_cons,List.length_nil]
 have hp:smK 100 n/\smK 13000 g.1:=hp
 obtain⟨g,u2⟩:=g
 obtain⟨p1,p2⟩:=hp
 change smK 13000 g at p2
 have hwd:(n.getD 0 []).length=wdM n:=rfl
 rw[hwd]
 refine⟨⟨by omega,fun a ha=>?_⟩,fun h=>?_,fun h=>?_⟩
 ·rcases uo.mp ha with rfl|ha
  ·exact p1.1
  ·rw[qh.mp ha];exact p2.1
 ·unfold SC;rw[iq (fun hh=>h hh.1 hh.2)]
 ·obtain⟨hM,h7,w7,hC⟩:=p1.at h.1
  obtain⟨gM,g7,x7,gC⟩:=p2.at h.2
  refine⟨⟨by omega,by have:=hM.2.2.1;omega⟩,fun h2=>?_,fun h2=>⟨⟨tZ (kY h.1).2,tZ (kY h.2).2,?_⟩,fun h3=>?_,fun h3=>?_⟩⟩
  ·unfold SC;rw[ig h,iq (fun hh=>h2.elim (fun h3=>h3 hh.1) (fun h3=>h3 hh.2))]
  ·exact⟨NU hM w7 hC (by omega),NU gM x7 gC (by omega),by rw[a3b,pO,h2.1],by rw[pO,pO,h2.2],hC.sz (by omega),gC.sz (by omega)⟩
  ·unfold SC;rw[ig h,ig h2,iq (by rw[h3];decide)]
  ·unfold SC;rw[ig h,ig h2,ig h3]
def NW (g b:MQ):Prop:=isM g g.length (wdM g)/\isM b g.length (wdM g)/\g.length<=7/\wdM g<=7/\CdM g 100/\CdM b 100
def FY (g b:MQ):MQ × Bool × Unit:=if pU (bgM g b)=true then (sM g b,true,()) else ([],false,())
structure c3e (g b:MQ) (N c:Nat):Prop where
 g1:isM g N c
 b1:isM b N c
 n7:N<=7
 c7:c<=7
 g2:CdM g 100
 b2:CdM b 100
 t1:isM (trM b) c N
 t2:CdM (trM b) 100
 m1:isM (bgM g b) c c
 m2:CdM (bgM g b) 207
 i1:isM (mW (bgM g b)) c c
 i2:CdM (mW (bgM g b)) 26752
 p1:isM (mulM (mW (bgM g b)) (trM b)) c N
 p2:CdM (mulM (mW (bgM g b)) (trM b)) 26860
 q1:isM (mulM g (mulM (mW (bgM g b)) (trM b))) N N
 q2:CdM (mulM g (mulM (mW (bgM g b)) (trM b))) 26970
 s1:isM (sM g b) N N
 s2:CdM (sM g b) 27000
theorem a4T {g b:MQ} (H:NW g b):c3e g b g.length (wdM g):=by
 obtain⟨g1,b1,n7,c7,g2,b2⟩:=H
 have t1:=b1.trp
 have t2:=b2.trp b1
 have m1:=a0o g1 b1
 have m2:CdM (bgM g b) 207:=(t2.mul g2 t1 g1).mono (by omega)
 have i1:=m1.inv
 have h3:2 ^ wdM g*(207+2)<=128*209:=ou (a3i c7) (aj _)
 have i2:CdM (mW (bgM g b)) 26752:=(m2.inv m1).mono (by omega)
 have p1:=i1.mul t1
 have p2:CdM (mulM (mW (bgM g b)) (trM b)) 26860:=(i2.mul t2 i1 t1).mono (by omega)
 have q1:=g1.mul p1
 have q2:CdM (mulM g (mulM (mW (bgM g b)) (trM b))) 26970:=(g2.mul p2 g1 p1).mono (by omega)
 have d1:=JA g1.2.2.1 g1.2.2.2.1
 exact⟨g1,b1,n7,c7,g2,b2,t1,t2,m1,m2,i1,i2,p1,p2,q1,q2,VQ g1,(((a3Y g1.2.2.1).sub q2 d1 q1).mono (by omega):CdM (sM g b) 27000)⟩
def c0Y:Ctr:=⟨[tM,tM],[tM,tB],fun x=>NW x.1 x.2.1,fun x=>FY x.1 x.2.1⟩
theorem a2e:aW Tryz.prog 60 c0Y:=by
 refine bH (((((nil0.ad vX).ad QV).ad a7X).ad b2t).ad a6o) ⟨[],[],[]⟩ Tryz.func60 rfl (by decide) (fun x=>[]) (fun x hp=>?_)
 obtain⟨g,b,u⟩:=x
 change List (List Rat) at g
 change List (List Rat) at b
 refine bP (let A₂:=(tab (wdM b) b.length (tr (ent b)));let A₁:=(tab A₂.length (wdM g) (mm g.length (ent A₂) (ent g)));let A₀:=(tab (tV A₁).1.length (wdM A₂) (mm A₂.length (ent (tV A₁).1) (ent A₂)));let aQ:=(tab g.length (wdM A₀) (mm A₀.length (ent g) (ent A₀)));let bK:=(idM (aB g.length).toNat);(okM b/\True)/\((okM A₂/\okM g/\wdM A₂=List.length g/\szM A₂ 1000000/\szM g 1000000)/\True)/\((okM A₁/\wdM A₁=List.length A₁/\FX A₁.length (List.length A₁+List.length A₁) (jK A₁.length (ent A₁) idm) A₁.length)/\True)/\ifB (Prod.fst (tV A₁).2 != 0) (True/\aC (List Rat)=Prod.fst (FY g b)/\True/\false=Prod.fst (FY g b).2/\True) (((okM (tV A₁).1/\okM A₂/\wdM (tV A₁).1=List.length A₂/\szM (tV A₁).1 1000000/\szM A₂ 1000000)/\True)/\((okM g/\okM A₀/\wdM g=List.length A₀/\szM g 1000000/\szM A₀ 1000000)/\True)/\((1<=aB g.length/\aB g.length<=64)/\True)/\((okM bK/\okM aQ/\List.length bK=List.length aQ/\wdM bK=wdM aQ)/\True)/\True/\XH bK aQ=Prod.fst (FY g b)/\True/\true=Prod.fst (FY g b).2/\True)) (by kernel_rfl) ?_
 try dsimp only[Ty.den,Lf.den,asT] at *
 try simp only[yH,yA,trF,yI]
 have hZ:(⟨false,0,[],[]⟩:aF)=bU:=rfl
 try dsimp only[aB,asT,aA,aC,Ty.den,Lf.den] at *
 try simp only[hZ,Int.toNat_natCast,aT,ay,au,oh,ny,aH,nameAt,aV,aS,bF,rowAt,iw,gy]
 try simp only[kX,List.all_cons,List.all_nil,xu,mg,tu,ji,uy,ne_eq,ak,qm,jo,qw,uw,Ci,yw,Cj,oh,ny,jC,uf,qo,List.length_cons,List.length_nil]
 have F:=a4T (show NW g b from hp)
 rw[show mulM (trM b) g=bgM g b from rfl]
 have l1:=F.m1.len
 have w1:=F.m1.wd
 have hg:=F.g1.2.2.1
 have h64:=F.n7
 refine⟨F.b2.ok F.b1 (by omega),⟨F.t2.ok F.t1 (by omega),F.g2.ok F.g1 (by omega),F.t1.wd,F.t2.sz (by omega),F.g2.sz (by omega)⟩,⟨F.m2.ok F.m1 (by omega),by rw[l1,w1],?_⟩,fun h=>?_,fun h=>?_⟩
 ·rw[l1]
  have h3:2 ^ wdM g*(207+1+1)<=128*209:=ou (a3i F.c7) (aj _)
  exact QX (F.m2.KN F.m1) (by omega) (by omega)
 ·have e:pU (bgM g b)=false:=by
   cases hr:pU (bgM g b)
   ·rfl
   ·exfalso;apply h;unfold tV;rw[hr];rfl
  unfold FY;rw[e];exact⟨rfl,rfl⟩
 ·have e:pU (bgM g b)=true:=by
   cases hr:pU (bgM g b)
   ·exfalso;unfold tV at h;rw[hr,iq (by decide)] at h;exact absurd h (by decide)
   ·rfl
  have e2:tV (bgM g b)=(mW (bgM g b),0,()):=by unfold tV;rw[e];rfl
  have e3:FY g b=(sM g b,true,()):=by unfold FY;rw[e];rfl
  rw[e2,e3]
  refine⟨⟨F.i2.ok F.i1 (by omega),F.t2.ok F.t1 (by omega),F.i1.wd.trans F.t1.len.symm,F.i2.sz (by omega),F.t2.sz (by omega)⟩,⟨F.g2.ok F.g1 (by omega),F.p2.ok F.p1 (by omega),F.p1.len.symm,F.g2.sz (by omega),F.p2.sz (by omega)⟩,⟨by omega,by omega⟩,⟨(a3Y hg).ok (JA hg (by omega)) (by omega),F.q2.ok F.q1 (by omega),?_,?_⟩,rfl,rfl⟩
  ·rw[F.q1.len];exact(JA hg (by omega)).len
  ·rw[F.q1.wd];exact(JA hg (by omega)).wd
def b2S (s q:MQ):Prop:=isM s s.length s.length/\isM q s.length s.length/\s.length<=7/\CdM s 30000/\CdM q 50000
def c0T:Ctr:=⟨[tM,tM],[tM],fun x=>b2S x.1 x.2.1,fun x=>(mulM (mulM x.1 x.2.1) (trM x.1),())⟩
theorem a9B:aW Tryz.prog 69 c0T:=by
 refine bH ((nil0.ad vX).ad QV) ⟨[],[],[]⟩ Tryz.func69 rfl (by decide) (fun x=>[]) (fun x hp=>?_)
 obtain⟨s,q,u⟩:=x
 change List (List Rat) at s
 change List (List Rat) at q
 refine bP (let A₀:=(tab s.length (wdM q) (mm q.length (ent s) (ent q)));let A₁:=(tab (wdM s) s.length (tr (ent s)));(okM s/\True)/\((okM s/\okM q/\wdM s=List.length q/\szM s 1000000/\szM q 1000000)/\True)/\((okM A₀/\okM A₁/\wdM A₀=List.length A₁/\szM A₀ 1000000/\szM A₁ 1000000)/\True)/\True/\tab A₀.length (wdM A₁) (mm A₁.length (ent A₀) (ent A₁))=mulM (mulM s q) (trM s)/\True) (by kernel_rfl) ?_
 try dsimp only[Ty.den,Lf.den,asT] at *
 try simp only[yH,yA,trF,yI]
 have hZ:(⟨false,0,[],[]⟩:aF)=bU:=rfl
 try dsimp only[aB,asT,aA,aC,Ty.den,Lf.den] at *
 try simp only[hZ,Int.toNat_natCast,aT,ay,au,oh,ny,aH,nameAt,aV,aS,bF,rowAt,iw,gy]
 try simp only[kX,List.all_cons,List.all_nil,xu,mg,tu,ji,uy,ne_eq,ak,qm,jo,qw,uw,Ci,yw,Cj,oh,ny,jC,uf,qo,List.length_cons,List.length_nil]
 have hp:b2S s q:=hp
 obtain⟨s1,q1,n7,s2,q2⟩:=hp
 have t1:=s1.trp
 have t2:=s2.trp s1
 have m1:=s1.mul q1
 have m2:CdM (mulM s q) 80007:=(s2.mul q2 s1 q1).mono (by omega)
 exact⟨s2.ok s1 (by omega),⟨s2.ok s1 (by omega),q2.ok q1 (by omega),s1.wd.trans q1.len.symm,s2.sz (by omega),q2.sz (by omega)⟩,⟨m2.ok m1 (by omega),t2.ok t1 (by omega),m1.wd.trans t1.len.symm,m2.sz (by omega),t2.sz (by omega)⟩⟩
end Go.Proofs.YtgplhbhfdgempaaGreat
