/-
  Lemmas for the statements about datums, part 33 of 37.
-/
import Derived.Test.YtgplhbhfdgempaaGreatDb32
namespace Go.Proofs.YtgplhbhfdgempaaGreat
open Go Go.RowKit
theorem qO:type_of% @Bool.or_eq_false_iff:=@Bool.or_eq_false_iff
theorem yx:type_of% @Bool.and_true:=@Bool.and_true
theorem qg:type_of% @Bool.and_eq_false_imp:=@Bool.and_eq_false_imp
theorem tC:type_of% @bne_eq_false_iff_eq:=@bne_eq_false_iff_eq
theorem xk:type_of% @Int.natCast_inj:=@Int.natCast_inj
theorem AO:type_of% @implies_true:=@implies_true
set_option maxRecDepth 100000
set_option maxHeartbeats 1000000
set_option linter.unusedVariables false
set_option linter.unusedSimpArgs false
def okR (l:LR):Bool:=!l.any (fun q=>!q.ok)
def c2b:Ctr:=⟨[.list tMR],[tB],fun x=>(show ML from x.1).length<=1000000/\∀ a ∈ (show ML from x.1),iM a,fun x=>(gW x.1==0,())⟩
def c1Y:Ctr:=⟨[.list tR],[tB],fun x=>sV x.1,fun x=>(okR x.1,())⟩
theorem yH:aY Tryz.prog 49 c2b:=by
 refine bH (nil0.ad qB) ⟨[],[],[]⟩ Tryz.func49 rfl (by decide) (fun x=>[.inv {k:Nat // k<=(show ML from x.1).length/\((show ML from x.1).take k).any (fun a=>bW a != 0)=false} (fun k=>[(7,.val tI (k.1:Int))]) (fun k=>[]) (fun k=>(show ML from x.1).length-k.1) ⟨0,by omega,rfl⟩ (fun _=>[])]) (fun x hp=>?_)
 obtain⟨x,u⟩:=x
 change List (List (List aF)) at x
 refine bP ((asT Int 0=0/\True)/\∀ (i:{ k:Nat // k<=List.length x/\(List.any (List.take k x) fun(a:List (List aF))=>bW a != 0)=false }),asT Bool true=true/\ifB (decide (aA (aB i)<aA x.length)) ((0<=aA (aB i)/\aA (aB i)<aA x.length/\True)/\(iM (List.getD x (aA (aB i)).toNat (aC (List aF)))/\True)/\ifB (bW (List.getD x (aA (aB i)).toNat (aC (List aF))) != 0) (True/\false=(gW x==0)/\True) (∃ (i':{ k:Nat // k<=List.length x/\(List.any (List.take k x) fun(a:List (List aF))=>bW a != 0)=false }),List.length x-aB i'<List.length x-aB i/\IntKind.wrap IntKind.i64 (aA (aB i)+1)=aA (aB i')/\True)) (True/\true=(gW x==0)/\True)) (by kernel_rfl) ?_
 have hZ:(⟨false,0,[],[]⟩:aF)=bV:=rfl
 dsimp only[aA,asT,aB,aC,Ty.den,Lf.den] at *
 simp only[hZ,Int.toNat_natCast,aJ,dh,bn,mg,mW,aH,nameAt,aX,aN,aZ,rowAt,iw,gJ]
 have hp:x.length<=1000000/\∀ a ∈ x,iM a:=hp
 obtain⟨hl,hb⟩:=hp
 refine fun i=>⟨fun h1=>⟨⟨by omega,h1⟩,fA hb (by omega),fun h2=>?_,fun h2=>⟨⟨i.1+1,by omega,?_⟩,by simp only;omega,?_⟩⟩,fun h1=>?_⟩
 ·have hi:i.1<x.length:=by omega
  have h3:x.any (fun a=>bW a != 0)=true:=tY.mpr ⟨x.getD i.1 [],by rw[ay,dn hi];exact jm hi,h2⟩
  unfold gW;rw[h3];rfl
 ·rw[mM (d:=[]) (by omega),i.2.2,h2];rfl
 ·rw[bF (by omega) (by omega)];rfl
 ·have h3:=i.2.2
  rw[jG (by omega)] at h3
  unfold gW;rw[h3];rfl
theorem a2P:aY Tryz.prog 58 c1Y:=by
 refine bH (nil0.ad b6J) ⟨[4],[],[]⟩ Tryz.func58 rfl (by decide) (fun x=>[.inv {k:Nat // k<=(show LR from x.1).length/\((show LR from x.1).take k).any (fun q=>!q.ok)=false} (fun k=>[(7,.val tI (k.1:Int))]) (fun k=>[]) (fun k=>(show LR from x.1).length-k.1) ⟨0,by omega,rfl⟩ (fun _=>[])]) (fun x hp=>?_)
 obtain⟨x,u⟩:=x
 change List aF at x
 refine bP ((asT Int 0=0/\True)/\∀ (i:{ k:Nat // k<=List.length x/\(List.any (List.take k x) fun(q:aF)=>!aF.ok q)=false }),asT Bool true=true/\ifB (decide (aA (aB i)<aA x.length)) ((0<=aA (aB i)/\aA (aB i)<aA x.length/\True)/\((aF.n (List.getD x (aA (aB i)).toNat bV)<=1000000000/\aF.m (List.getD x (aA (aB i)).toNat bV)<=1000000000)/\True)/\ifB (!aF.ok (List.getD x (aA (aB i)).toNat bV)) (True/\false=okR x/\True) (∃ (i':{ k:Nat // k<=List.length x/\(List.any (List.take k x) fun(q:aF)=>!aF.ok q)=false }),List.length x-aB i'<List.length x-aB i/\IntKind.wrap IntKind.i64 (aA (aB i)+1)=aA (aB i')/\True)) (True/\true=okR x/\True)) (by kernel_rfl) ?_
 have hZ:(⟨false,0,[],[]⟩:aF)=bV:=rfl
 dsimp only[aA,asT,aB,aC,Ty.den,Lf.den] at *
 simp only[hZ,Int.toNat_natCast,aJ,dh,bn,mg,mW,aH,nameAt,aX,aN,aZ,rowAt,iw,gJ]
 have hp:sV x:=hp
 obtain⟨hl,hb⟩:=hp
 refine fun i=>⟨fun h1=>⟨⟨by omega,h1⟩,fA hb (by omega),fun h2=>?_,fun h2=>⟨⟨i.1+1,by omega,?_⟩,by simp only;omega,?_⟩⟩,fun h1=>?_⟩
 ·have hi:i.1<x.length:=by omega
  have h3:x.any (fun q=>!q.ok)=true:=tY.mpr ⟨x.getD i.1 bV,by rw[ay,dn hi];exact jm hi,h2⟩
  unfold okR;rw[h3];rfl
 ·rw[mM (d:=bV) (by omega),i.2.2,h2];rfl
 ·rw[bF (by omega) (by omega)];rfl
 ·have h3:=i.2.2
  rw[jG (by omega)] at h3
  unfold okR;rw[h3];rfl
def rE (a:MR) (r c:Int):Bool:=((a.length:Int)==r)&&((wdM a:Int)==c)
def b6P:Ctr:=⟨[tMR,tI,tI],[tB],fun x=>0<(show MR from x.1).length,fun x=>(rE x.1 x.2.1 x.2.2.1,())⟩
theorem OJ:aY Tryz.prog 59 b6P:=by
 refine bH nil0 ⟨[],[],[]⟩ Tryz.func59 rfl (by decide) (fun x=>[]) (fun x hp=>?_)
 obtain⟨a,r,c,u⟩:=x
 change List (List aF) at a
 change Int at r
 change Int at c
 refine bP (((((aA a.length==r)==true)=true->((aA a.length==r)==true)=true/\asT Int 0<=0/\0<aA a.length/\True)/\(((aA a.length==r)==true)=true->((aA a.length==r)==true)=true/\True)/\(((aA a.length==r)==true)=true->((aA a.length==r)==true)=true/\True)/\(((aA a.length==r)==true)=true->((aA a.length==r)==true)=true/\((aA a.length==r)==true)=true/\True)/\((aA a.length==r)=true->((aA a.length==r)==true)=true)/\True)/\True/\(bif aA a.length==r then aA (List.getD a 0 (aC aF)).length==c else false)=rE a r c/\True) (by kernel_rfl) ?_
 have hZ:(⟨false,0,[],[]⟩:aF)=bV:=rfl
 dsimp only[aA,asT,aB,aC,Ty.den,Lf.den] at *
 simp only[hZ,Int.toNat_natCast,aJ,dh,bn,mg,mW,aH,nameAt,aX,aN,aZ,rowAt,iw,gJ]
 have hp:0<a.length:=hp
 refine⟨⟨fun h=>⟨h,by omega,by omega⟩,fun h=>h,fun h=>h,fun h=>⟨h,h⟩,fun h=>by rw[h];rfl⟩,?_⟩
 unfold rE
 cases ((a.length:Int)==r)<;>rfl
def c2d:Ctr:=⟨[tM],[tB],fun x=>okM x.1/\wdM (show MQ from x.1)=(show MQ from x.1).length,fun x=>(mD x.1,())⟩
theorem a2T:aY Tryz.prog 50 c2d:=by
 refine bH (nil0.ad c3W) ⟨[],[],[]⟩ Tryz.func50 rfl (by decide) (fun x=>[.inv {k:Nat // k<=(show MQ from x.1).length/\∀ i,i<k->∀ j,j<i->ent (show MQ from x.1) i j=ent (show MQ from x.1) j i} (fun k=>[(7,.val tI (k.1:Int))]) (fun k=>[]) (fun k=>(show MQ from x.1).length-k.1) ⟨0,by omega,fun i h=>absurd h (by omega)⟩ (fun k=>[.inv {c:Nat // c<=k.1/\∀ j,j<c->ent (show MQ from x.1) k.1 j=ent (show MQ from x.1) j k.1} (fun c=>[(11,.val tI (c.1:Int))]) (fun c=>[]) (fun c=>k.1-c.1) ⟨0,by omega,fun i h=>absurd h (by omega)⟩ (fun _=>[])])]) (fun x hp=>?_)
 obtain⟨a,u⟩:=x
 change List (List Rat) at a
 refine bP ((asT Int 0=0/\True)/\∀ (i:{ k:Nat // k<=List.length a/\∀ (i:Nat),i<k->∀ (j:Nat),j<i->ent a i j=ent a j i }),let A₁:=(aA (aB i)).toNat;let A₀:=(List.getD a A₁ (aC Rat));asT Bool true=true/\ifB (decide (aA (aB i)<aA a.length)) ((asT Int 0=0/\True)/\∀ (i_1:{ c:Nat // c<=aB i/\∀ (j:Nat),j<c->ent a (aB i) j=ent a j (aB i) }),let A₂:=(aA (aB i_1)).toNat;let aV:=(List.getD a A₂ (aC Rat));asT Bool true=true/\ifB (decide (aA (aB i_1)<aA (aB i))) ((0<=aA (aB i)/\aA (aB i)<aA a.length/\0<=aA (aB i_1)/\aA (aB i_1)<aA A₀.length/\0<=aA (aB i_1)/\aA (aB i_1)<aA a.length/\0<=aA (aB i)/\aA (aB i)<aA aV.length/\s44 (List.getD A₀ A₂ 0) (List.getD aV A₁ 0)/\True)/\ifB (CP (List.getD A₀ A₂ 0) (List.getD aV A₁ 0) != 0) (True/\false=mD a/\True) (∃ (i':{ c:Nat // c<=aB i/\∀ (j:Nat),j<c->ent a (aB i) j=ent a j (aB i) }),aB i-aB i'<aB i-aB i_1/\IntKind.wrap IntKind.i64 (aA (aB i_1)+1)=aA (aB i')/\True)) (∃ (i':{ k:Nat // k<=List.length a/\∀ (i:Nat),i<k->∀ (j:Nat),j<i->ent a i j=ent a j i }),List.length a-aB i'<List.length a-aB i/\IntKind.wrap IntKind.i64 (aA (aB i)+1)=aA (aB i')/\True)) (True/\true=mD a/\True)) (by kernel_rfl) ?_
 have hZ:(⟨false,0,[],[]⟩:aF)=bV:=rfl
 dsimp only[aA,asT,aB,aC,Ty.den,Lf.den] at *
 simp only[hZ,Int.toNat_natCast,aJ,dh,bn,mg,mW,aH,nameAt,aX,aN,aZ,rowAt,iw,gJ]
 have hp:okM a/\wdM a=a.length:=hp
 obtain⟨ha,hw⟩:=hp
 have q1:=ha.r64
 refine fun i=>⟨fun h1=>fun j=>⟨fun h2=>?_,fun h2=>⟨⟨i.1+1,by omega,fun k hk c hc=>?_⟩,by simp only;omega,?_⟩⟩,fun h1=>?_⟩
 ·have hi:i.1<a.length:=by omega
  have hj:j.1<i.1:=by omega
  have r1:=ha.row hi
  have r2:=ha.row (show j.1<a.length by omega)
  have z1:=ha.2 i.1 hi j.1 (by omega)
  have z2:=ha.2 j.1 (by omega) i.1 (by omega)
  rw[r1,r2]
  have e:CP ((a.getD i.1 []).getD j.1 0) ((a.getD j.1 []).getD i.1 0)=0↔ent a i.1 j.1=ent a j.1 i.1:=UG _ _
  refine⟨⟨by omega,by omega,by omega,by omega,by omega,by omega,by omega,by omega,⟨jc z1 (by omega),jc z2 (by omega)⟩⟩,fun h3=>?_,fun h3=>⟨⟨j.1+1,by omega,fun c hc=>?_⟩,by simp only;omega,?_⟩⟩
  ·refine(jq fun h=>?_).symm
   have:=e.mpr (h i.1 hi j.1 (by omega))
   rw[this] at h3;exact absurd h3 (by decide)
  ·by_cases h4:c<j.1
   ·exact j.2.2 c h4
   ·rw[show c=j.1 by omega];exact e.mp (by simpa using h3)
  ·rw[bF (by omega) (by omega)];rfl
 ·by_cases h4:k<i.1
  ·exact i.2.2 k h4 c hc
  ·have:k=i.1:=by omega
   subst this
   exact j.2.2 c (by omega)
 ·rw[bF (by omega) (by omega)];rfl
 ·refine(jw fun k hk c hc=>?_).symm
  rcases Nat.lt_trichotomy k c with h|h|h
  ·exact(i.2.2 c (by omega) k h).symm
  ·rw[h]
  ·exact i.2.2 k (by omega) c h
def RZ (n g:MQ):Prop:=okE n/\okE g/\wdM n=n.length/\g.length=n.length/\szM n 1000000/\szM g 1000000
theorem PZ (a:MQ):rkM a<=a.length:=(iL a.length (ent a) (wdM a)).le
theorem b7V {a b:MQ} {R C:Nat} (sa:szM a 1000000) (sb:szM b 1000000) (hM:isM (mulM a b) R C) (hw:wdM a=b.length) (h64:b.length<=64) {i j:Nat} (hi:i<R) (hj:j<C):rsz (ent (mulM a b) i j)<=128000065:=by
 have l1:(mulM a b).length=a.length:=aZ
 have hi2:i<a.length:=by have:=hM.len;omega
 have l2:wdM (mulM a b)=wdM b:=QE (by omega)
 have hj2:j<wdM b:=by have:=hM.wd;omega
 unfold mulM
 rw[kN hi2 hj2]
 have:=BK (K:=2000000) (f:=fun k=>ent a i k*ent b k j) b.length (fun k hk=>by
  have y1:=sa i hi2 k (by omega)
  have y2:=sb k hk j hj2
  have y3:=oI (ent a i k) (ent b k j)
  show rsz (ent a i k*ent b k j)<=_
  omega)
 have y4:b.length*(2000000+1)<=64*2000001:=oh h64 (aj _)
 show rsz (sm b.length fun k=>ent a i k*ent b k j)<=_
 omega
def c1Z:Ctr:=⟨[tM,tM],[tB],fun x=>RZ x.1 x.2.1,fun x=>(lY x.1 x.2.1,())⟩
theorem UM:aY Tryz.prog 57 c1Z:=by
 refine bH ((((nil0.ad a4J).ad TD).ad b2D).ad a2T) ⟨[10],[],[]⟩ Tryz.func57 rfl (by decide) (fun x=>[.inv {k:Nat // k<=(mulM (show MQ from x.1) (show MQ from x.2.1)).length/\∀ i,i<k->∀ j,j<wdM (mulM (show MQ from x.1) (show MQ from x.2.1))->ent (mulM (show MQ from x.1) (show MQ from x.2.1)) i j=0} (fun k=>[(26,.val tI (k.1:Int))]) (fun k=>[]) (fun k=>(mulM (show MQ from x.1) (show MQ from x.2.1)).length-k.1) ⟨0,by omega,fun i h=>absurd h (by omega)⟩ (fun k=>[.inv {c:Nat // c<=wdM (mulM (show MQ from x.1) (show MQ from x.2.1))/\∀ j,j<c->ent (mulM (show MQ from x.1) (show MQ from x.2.1)) k.1 j=0} (fun c=>[(32,.val tI (c.1:Int))]) (fun c=>[]) (fun c=>wdM (mulM (show MQ from x.1) (show MQ from x.2.1))-c.1) ⟨0,by omega,fun i h=>absurd h (by omega)⟩ (fun _=>[])])]) (fun x hp=>?_)
 obtain⟨a,b,u⟩:=x
 change List (List Rat) at a
 change List (List Rat) at b
 refine bP (let A₀:=(List.getD b 0 (aC Rat)).length;let A₁:=(tab a.length (wdM b) (mm b.length (ent a) (ent b)));((okM a/\wdM a=List.length a)/\True)/\ifB (!mD a) (True/\false=lY a b/\True) (((okM a/\okM b/\wdM a=List.length b/\szM a 1000000/\szM b 1000000)/\True)/\(asT Int 0=0/\True)/\∀ (i:{ k:Nat // k<=List.length (mulM a b)/\∀ (i:Nat),i<k->∀ (j:Nat),j<wdM (mulM a b)->ent (mulM a b) i j=0 }),let A₂:=(List.getD A₁ (aA (aB i)).toNat (aC Rat));asT Bool true=true/\ifB (decide (aA (aB i)<aA A₁.length)) ((0<=aA (aB i)/\aA (aB i)<aA A₁.length/\True)/\(asT Int 0=0/\True)/\∀ (i_1:{ c:Nat // c<=wdM (mulM a b)/\∀ (j:Nat),j<c->ent (mulM a b) (aB i) j=0 }),let aV:=(List.getD A₂ (aA (aB i_1)).toNat 0);asT Bool true=true/\ifB (decide (aA (aB i_1)<aA A₂.length)) ((0<=aA (aB i_1)/\aA (aB i_1)<aA A₂.length/\True)/\(rsz aV<=1000000000/\True)/\ifB (sgn (Rat.num aV) != 0) (True/\false=lY a b/\True) (∃ (i':{ c:Nat // c<=wdM (mulM a b)/\∀ (j:Nat),j<c->ent (mulM a b) (aB i) j=0 }),wdM (mulM a b)-aB i'<wdM (mulM a b)-aB i_1/\IntKind.wrap IntKind.i64 (aA (aB i_1)+1)=aA (aB i')/\True)) (∃ (i':{ k:Nat // k<=List.length (mulM a b)/\∀ (i:Nat),i<k->∀ (j:Nat),j<wdM (mulM a b)->ent (mulM a b) i j=0 }),List.length (mulM a b)-aB i'<List.length (mulM a b)-aB i/\IntKind.wrap IntKind.i64 (aA (aB i)+1)=aA (aB i')/\True)) ((okE a/\True)/\(okE b/\True)/\(asT Int 0<=0/\0<aA b.length/\(((aA (rkM b)==aA A₀)==true)=true->((aA (rkM b)==aA A₀)==true)=true/\True)/\(((aA (rkM b)==aA A₀)==true)=true->((aA (rkM b)==aA A₀)==true)=true/\((aA (rkM b)==aA A₀)==true)=true/\True)/\(((aA (rkM b)==aA A₀)==true)=true->((aA (rkM b)==aA A₀)==true)=true/\((aA (rkM b)==aA A₀)==true)=true/\True)/\((aA (rkM b)==aA A₀)=true->((aA (rkM b)==aA A₀)==true)=true)/\True)/\True/\(bif aA (rkM b)==aA A₀ then aA (rkM b)==IntKind.wrap IntKind.i64 (aA a.length-aA (rkM a)) else false)=lY a b/\True))) (by kernel_rfl) ?_
 have hZ:(⟨false,0,[],[]⟩:aF)=bV:=rfl
 dsimp only[aA,asT,aB,aC,Ty.den,Lf.den] at *
 simp only[hZ,Int.toNat_natCast,aJ,dh,bn,mg,mW,aH,nameAt,aX,aN,aZ,rowAt,iw,gJ]
 have hp:RZ a b:=hp
 obtain⟨ea,eb,hw,hl,sa,sb⟩:=hp
 have ha:=ea.1
 have hb:=eb.1
 have q1:=ha.r64
 have q2:=hb.r64
 have q3:=hb.c64
 have q4:=hb.pos
 have ra:rkM a<=a.length:=PZ a
 have rb:rkM b<=b.length:=PZ b
 have hwb:(b.getD 0 []).length=wdM b:=rfl
 have hM:isM (mulM a b) a.length (wdM b):=ha.1.mul (by have:=hb.1;rwa [hl,<-hw] at this)
 have hm:tab a.length (wdM b) (mm b.length (ent a) (ent b))=mulM a b:=rfl
 have e1:(mulM a b).length=a.length:=hM.len
 have e2:wdM (mulM a b)=wdM b:=hM.wd
 rw[hwb,hm]
 simp only[e1,e2]
 refine⟨⟨ha,hw⟩,fun h1=>?_,fun h1=>⟨⟨ha,hb,by omega,sa,sb⟩,fun i=>⟨fun h2=>⟨⟨by omega,h2⟩,fun j=>?_⟩,fun h2=>?_⟩⟩⟩
 ·have h1:mD a=false:=by simpa using h1
  unfold lY;rw[h1];rfl
 ·have hi:i.1<a.length:=by omega
  have hr:=hM.row hi
  rw[hr]
  refine⟨fun h3=>?_,fun h3=>⟨⟨i.1+1,by omega,fun k hk c hc=>?_⟩,by simp only;omega,?_⟩⟩
  ·have hj:j.1<wdM b:=by omega
   refine⟨⟨by omega,by omega⟩,?_,fun h4=>?_,fun h4=>⟨⟨j.1+1,by omega,fun c hc=>?_⟩,by simp only;omega,?_⟩⟩
   ·have z:=b7V sa sb hM (by omega) (by omega) hi hj
    exact jc z (by omega)
   ·have h5:lY a b=false:=by
     unfold lY
     rw[show wS (mulM a b)=false from jq fun h=>by
      have:ent (mulM a b) i.1 j.1=0:=h i.1 (by omega) j.1 (by omega)
      rw[show ((mulM a b).getD i.1 []).getD j.1 0=0 from this] at h4
      revert h4;decide]
     rw[Bool.and_false];rfl
    exact h5.symm
   ·by_cases h5:c<j.1
    ·exact j.2.2 c h5
    ·rw[show c=j.1 by omega];exact a8e h4
   ·rw[bF (by omega) (by omega)];rfl
  ·by_cases h4:k<i.1
   ·exact i.2.2 k h4 c hc
   ·have:k=i.1:=by omega
    subst this
    exact j.2.2 c (by omega)
  ·rw[bF (by omega) (by omega)];rfl
 ·refine⟨ea,eb,⟨by omega,by omega,fun h=>h,fun h=>⟨h,h⟩,fun h=>⟨h,h⟩,fun h=>by rw[h];rfl⟩,?_⟩
  have h1:mD a=true:=by simpa using h1
  have hz:wS (mulM a b)=true:=jw fun k hk c hc=>i.2.2 k (by omega) c (by omega)
  unfold lY
  rw[h1,hz,bF (by omega) (by omega)]
  by_cases h3:rkM b=wdM b
  ·rw[show (((rkM b:Nat):Int)==((wdM b:Nat):Int))=true by rw[h3];exact beq_self_eq_true _,jw h3]
   show (((rkM b:Nat):Int)==(a.length:Int)-(rkM a:Int))=decide (rkM b+rkM a=a.length)
   by_cases h4:rkM b+rkM a=a.length
   ·rw[jw h4];exact jd.mpr (by omega)
   ·rw[jq h4];exact nS.mpr (by omega)
  ·rw[show (((rkM b:Nat):Int)==((wdM b:Nat):Int))=false from nS.mpr (by omega),jq h3];rfl
def lq (l:LR):LQ':=List.map (fun q:aF=>q.x) l
def mq (a:MR):MQ:=List.map (fun r:LR=>lq r) a
def smK (K:Nat) (a:MR):Prop:=iM a/\(bW a=0->a.length<=7/\wdM a<=7/\CdM (mq a) K)
theorem kT (a:MR):(mq a).length=a.length:=by unfold mq;exact ny _
theorem wG (l:LR):(lq l).length=l.length:=by unfold lq;exact ny _
theorem uF (a:MR):List.map (fun r:List aF=>lq r) a=mq a:=rfl
theorem uD (l:LR):List.map (fun q:aF=>q.x) l=lq l:=rfl
theorem KH {a:MR} (i:Nat):(mq a).getD i []=lq (a.getD i []):=by
 unfold mq
 simp only[ay,uz]
 cases a[i]?<;>rfl
theorem RF (a:MR):wdM (mq a)=wdM a:=by
 show ((mq a).getD 0 []).length=(a.getD 0 []).length
 rw[KH,wG]
theorem a7A (a:MQ):mq (liftM a)=a:=by
 unfold mq lq
 rw[List.map_map]
 conv=>rhs;rw[<-List.map_id a]
 refine jf fun r _=>?_
 show List.map (fun q:aF=>q.x) (List.map (fun x=>dS x) r)=r
 rw[List.map_map]
 conv=>rhs;rw[<-List.map_id r]
 exact jf fun x _=>rfl
theorem gX {a:MR} (h:bW a=0):isM (mq a) a.length (wdM a)/\∀ r ∈ a,∀ q ∈ r,q.ok=true:=by
 unfold bW at h
 split at h
 ·next hh =>
  obtain⟨h1,h2,h3,h4,h5⟩:=hh
  have h6:∀ r ∈ a,r.length=wdM a/\∀ q ∈ r,q.ok=true:=fun r hr=>by
   have h7:=vC.mp h5 r hr
   unfold badR at h7
   rw[Bool.not_eq_true,qO] at h7
   refine⟨by simpa using h7.1,fun q hq=>?_⟩
   have:=vC.mp h7.2 q hq
   simpa using this
  refine⟨⟨kT a,fun r hr=>?_,h1,h2,h3,h4⟩,fun r hr=>(h6 r hr).2⟩
  obtain⟨s,hs,rfl⟩:=ni.mp hr
  rw[wG];exact(h6 s hs).1
 ·cases h
theorem lG {a:MR} (h:∀ r ∈ a,∀ q ∈ r,q.ok=true):bY (fun x:List aF=>aW [bY (fun q:aF=>aW [q.ok=true]) x]) a:=jJ.mpr fun r hr=>⟨jJ.mpr fun q hq=>⟨h r hr q hq,trivial⟩,trivial⟩
theorem smK.at {K:Nat} {a:MR} (H:smK K a) (h:bW a=0):isM (mq a) a.length (wdM a)/\a.length<=7/\wdM a<=7/\CdM (mq a) K:=⟨(gX h).1,H.2 h⟩
theorem a3R {C:Nat} (h:C<=7):2 ^ C<=128:=qj (n:=2) (by omega) h
theorem PU {a:MQ} {R C K:Nat} (h:isM a R C) (hc:C<=7) (H:CdM a K) (hK:K<=70000):okE a:=by
 refine⟨H.ok h (by omega),ND H (aj _) ?_⟩
 have h1:=oh (a3R (C:=wdM a) (by rw[h.wd];exact hc)) (show K+1<=70001 by omega)
 omega
theorem jK (l:ML):(gW l==0)=l.all (fun a=>bW a==0):=by
 unfold gW
 cases h:l.any (fun a=>bW a != 0)
 ·rw[dw (by decide)]
  refine(ql.mpr fun a ha=>?_).symm
  have:=vC.mp h a ha
  simpa using this
 ·rw[eY rfl]
  obtain⟨a,ha,hb⟩:=tY.mp h
  exact(List.all_eq_false.mpr ⟨a,ha,by simpa using hb⟩).symm
theorem iD (a b:Bool):(bif a then true else b)=(a || b):=by cases a<;>rfl
theorem uG (a b:MQ):tab a.length (wdM b) (mm b.length (ent a) (ent b))=mulM a b:=rfl
theorem trF (a:MQ):tab (wdM a) a.length (tr (ent a))=trM a:=rfl
theorem CdM.mono {a:MQ} {K L:Nat} (H:CdM a K) (h:K<=L):CdM a L:=Cd.mono H h
theorem b1a {N s:Nat} {p:List Nat} (h:s<(frees N p).length):(frees N p).getD s 0<N:=by
 rw[b1e h]
 have:=jm h
 unfold frees at this
 exact qN.mp (List.mem_filter.mp this).1
theorem b0s {e:Mt} {N K:Nat} (H:Cd (red N e N).1 N N K) (hK:1<=K):Cd (b6B N e) N (frees N (red N e N).2).length K:=by
 have E:=iL N e N
 have hle:=E.le
 obtain⟨D,d1,d2,d3⟩:=H
 refine⟨D,d1,d2,fun i hi s hs=>?_⟩
 have hj:=b1a hs
 show ∃ z:Int,SC (red N e N).1 (red N e N).2 ((frees N (red N e N).2).getD s 0) i*(D:Nat)=(z:Int)/\isz z<=K
 unfold SC
 split
 ·exact⟨(D:Nat),by rw[Rat.one_mul];rfl,by unfold isz;simpa using d2⟩
 ·split
  ·next h1 h2 =>
   obtain⟨z,z1,z2⟩:=d3 ((red N e N).2.idxOf i) (by have:=List.idxOf_lt_length_of_mem h2;omega) _ hj
   exact⟨-z,by rw[Rat.neg_mul,z1,Rat.intCast_neg],by rw[oD];exact z2⟩
  ·exact⟨0,by rw[Rat.zero_mul];rfl,by rw[EO];omega⟩
theorem a5x {n:MQ} {N:Nat} (hn:isM n N N) (h7:N<=7) (H:CdM n 100) (h:pI n≠[]):isM (pI n) (pI n).length N/\CdM (pI n) 13000/\(pI n).length<=7:=by
 have E:=iL N (ent n) N
 have h1:=b0Z E.nd E.lt
 have h2:1<=(frees N (red N (ent n) N).2).length:=by
  rcases qp (frees N (red N (ent n) N).2).length with e|e
  ·exact absurd (by rw[a0h hn,e];rfl) h
  ·exact e
 have H2:Cd (ent n) N N 100:=by have:=H;unfold CdM at this;rwa [hn.len,hn.wd] at this
 have h3:2 ^ N*(100+1)<=128*101:=oh (a3R h7) (aj _)
 have h4:1<=2 ^ N:=Nat.one_le_two_pow
 have h5:1*101<=2 ^ N*(100+1):=oh h4 (aj _)
 have H3:=b0s (H2.red N (aj N)) (by omega)
 rw[a0h hn,aZ]
 exact⟨pV h2 (by omega) hn.2.2.1 hn.2.2.2.1,(KQ h2 (Cd.tr H3)).mono (by omega),by omega⟩
theorem b2p {n:MQ} {N:Nat} (hn:isM n N N) (h7:N<=7) (H:CdM n 100) (h:pI n≠[]):okM (pI n):=by
 obtain⟨h1,h2,_⟩:=a5x hn h7 H h
 exact h2.ok h1 (by omega)
def CU (n:MR):(MQ × Unit) × Int × Unit :=
 if bW n=0 then if n.length=wdM n then if mD (mq n)=true then if pI (mq n)=[] then (([],()),6,()) else ((trM (pI (mq n)),()),0,()) else (([],()),12,()) else (([],()),4,()) else (([],()),1,())
def b0l:Ctr:=⟨[tMR],[.pair tM .unit,tI],fun x=>smK 100 x.1,fun x=>CU x.1⟩
theorem ZA:aY Tryz.prog 11 b0l:=by
 refine bH ((((nil0.ad BO).ad a9k).ad yH).ad a2T) ⟨[2],[],[]⟩ Tryz.func11 rfl (by decide) (fun x=>[]) (fun x hp=>?_)
 obtain⟨n,u⟩:=x
 change List (List aF) at n
 refine bP (let A₁:=(Ty.list (Ty.lf Lf.aU));let A₀:=(List.map (fun(xs:Ty.den A₁)=>List.map (fun(x:Ty.den (Ty.lf Lf.aU))=>aF.x x) xs) n);((List.length (n::aC (List (List aF)))<=1000000/\∀ (a:List (List aF)),a ∈ n::aC (List (List aF))->iM a)/\True)/\ifB (!gW (n::aC (List (List aF)))==0) ((True/\True)/\(List.map (fun(xs:Ty.den A₁)=>List.map (fun(x:Ty.den (Ty.lf Lf.aU))=>aF.x x) xs) (aC (List aF)),())=Prod.fst (CU n)/\True/\1=Prod.fst (CU n).2/\True) ((asT Int 0<=0/\0<aA n.length/\True)/\ifB (aA n.length != aA (List.getD n 0 (aC aF)).length) ((True/\True)/\(List.map (fun(xs:Ty.den A₁)=>List.map (fun(x:Ty.den (Ty.lf Lf.aU))=>aF.x x) xs) (aC (List aF)),())=Prod.fst (CU n)/\True/\4=Prod.fst (CU n).2/\True) ((bY (fun(x:Ty.den A₁)=>aW (bY (fun(x:Ty.den (Ty.lf Lf.aU))=>aW ((aF.ok x=true)::aC Prop)) x::aC Prop)) n/\(okM A₀/\wdM A₀=List.length A₀)/\True)/\ifB (!mD A₀) ((True/\True)/\(List.map (fun(xs:Ty.den A₁)=>List.map (fun(x:Ty.den (Ty.lf Lf.aU))=>aF.x x) xs) (aC (List aF)),())=Prod.fst (CU n)/\True/\12=Prod.fst (CU n).2/\True) ((bY (fun(x:Ty.den A₁)=>aW (bY (fun(x:Ty.den (Ty.lf Lf.aU))=>aW ((aF.ok x=true)::aC Prop)) x::aC Prop)) n/\okE A₀/\True)/\ifB (aA (pI A₀).length==0) ((True/\True)/\(List.map (fun(xs:Ty.den A₁)=>List.map (fun(x:Ty.den (Ty.lf Lf.aU))=>aF.x x) xs) (aC (List aF)),())=Prod.fst (CU n)/\True/\6=Prod.fst (CU n).2/\True) ((okM (pI A₀)/\True)/\True/\(tab (wdM (pI A₀)) (pI A₀).length (tr (ent (pI A₀))),())=Prod.fst (CU n)/\True/\0=Prod.fst (CU n).2/\True))))) (by kernel_rfl) ?_
 try dsimp only[Ty.den,Lf.den,asT] at *
 try simp only[uF,uD,trF,uG]
 have hZ:(⟨false,0,[],[]⟩:aF)=bV:=rfl
 try dsimp only[aA,asT,aB,aC,Ty.den,Lf.den] at *
 try simp only[hZ,Int.toNat_natCast,aJ,dh,bn,mg,mW,aH,nameAt,aX,aN,aZ,rowAt,iw,gJ]
 try simp only[jK,List.all_cons,List.all_nil,yx,nI,qw,jd,uy,ne_eq,ak,qg,nS,tC,xk,imp_self,AO,and_self,mg,mW,iD,qZ,qO,List.length_cons,List.length_nil]
 have hp:smK 100 n:=hp
 have hwd:(n.getD 0 []).length=wdM n:=rfl
 rw[hwd]
 refine⟨⟨by omega,fun a ha=>by rw[lN.mp ha];exact hp.1⟩,fun h=>?_,fun h=>?_⟩
 ·unfold CU;rw[dw h];exact⟨rfl,rfl⟩
 ·obtain⟨hM,h7,w7,hC⟩:=hp.at h
  have ok:=(gX h).2
  refine⟨⟨by omega,by have:=hM.2.2.1;omega⟩,fun h2=>?_,fun h2=>?_⟩
  ·unfold CU;rw[eY h,dw h2];exact⟨rfl,rfl⟩
  ·have hE:=PU hM w7 hC (by omega)
   have hN:isM (mq n) n.length n.length:=by rw[<-h2] at hM;exact hM
   refine⟨⟨lG ok,hE.1,by rw[RF,kT,h2]⟩,fun h3=>?_,fun h3=>⟨⟨lG ok,hE⟩,fun h4=>?_,fun h4=>?_⟩⟩
   ·unfold CU;rw[eY h,eY h2,dw (by rw[h3];decide)];exact⟨rfl,rfl⟩
   ·have h5:pI (mq n)=[]:=jo (by omega)
    unfold CU;rw[eY h,eY h2,eY h3,eY h5];exact⟨rfl,rfl⟩
   ·have h5:pI (mq n)≠[]:=fun e=>h4 (by rw[e];rfl)
    refine⟨b2p hN h7 hC h5,?_⟩
    unfold CU;rw[eY h,eY h2,eY h3,dw h5];exact⟨rfl,rfl⟩
def UE (n g:MR):Int :=
 if bW n=0/\bW g=0 then if n.length=wdM n/\g.length=n.length then if lY (mq n) (mq g)=true then 0 else 12 else 4 else 1
def b6f:Ctr:=⟨[tMR,.pair tMR .unit],[tI],fun x=>smK 100 x.1/\smK 13000 x.2.1.1,fun x=>(UE x.1 x.2.1.1,())⟩
theorem a2Q:aY Tryz.prog 18 b6f:=by
 refine bH ((nil0.ad yH).ad UM) ⟨[],[],[]⟩ Tryz.func18 rfl (by decide) (fun x=>[]) (fun x hp=>?_)
 obtain⟨n,g,u⟩:=x
 change List (List aF) at n
 change List (List aF) × Unit at g
 refine bP (let A₀:=(List.getD n 0 (aC aF)).length;let A₁:=(asT (List (List aF)) g.1);let aP:=(Ty.list (Ty.lf Lf.aU));let A₂:=(List.map (fun(xs:Ty.den aP)=>List.map (fun(x:Ty.den (Ty.lf Lf.aU))=>aF.x x) xs) A₁);let aV:=(List.map (fun(xs:Ty.den aP)=>List.map (fun(x:Ty.den (Ty.lf Lf.aU))=>aF.x x) xs) n);((List.length (n::asT (List (List aF)) g.1::aC (List (List aF)))<=1000000/\∀ (a:List (List aF)),a ∈ n::asT (List (List aF)) g.1::aC (List (List aF))->iM a)/\True)/\ifB (!gW (n::asT (List (List aF)) g.1::aC (List (List aF)))==0) (True/\1=UE n A₁/\True) ((asT Int 0<=0/\0<aA n.length/\(((aA n.length != aA A₀)==false)=true->((aA n.length != aA A₀)==false)=true/\True)/\(((aA n.length != aA A₀)==false)=true->((aA n.length != aA A₀)==false)=true/\True)/\(((aA n.length != aA A₀)==false)=true->((aA n.length != aA A₀)==false)=true/\True)/\(((aA n.length != aA A₀)==false)=true->((aA n.length != aA A₀)==false)=true/\((aA n.length != aA A₀)==false)=true/\True)/\((aA n.length != aA A₀)=false->((aA n.length != aA A₀)==false)=true)/\True)/\ifB (bif aA n.length != aA A₀ then true else aA A₁.length != aA n.length) (True/\4=UE n A₁/\True) ((bY (fun(x:Ty.den aP)=>aW (bY (fun(x:Ty.den (Ty.lf Lf.aU))=>aW ((aF.ok x=true)::aC Prop)) x::aC Prop)) n/\bY (fun(x:Ty.den aP)=>aW (bY (fun(x:Ty.den (Ty.lf Lf.aU))=>aW ((aF.ok x=true)::aC Prop)) x::aC Prop)) A₁/\RZ aV A₂/\True)/\ifB (!lY aV A₂) (True/\12=UE n A₁/\True) (True/\0=UE n A₁/\True)))) (by kernel_rfl) ?_
 try dsimp only[Ty.den,Lf.den,asT] at *
 try simp only[uF,uD,trF,uG]
 have hZ:(⟨false,0,[],[]⟩:aF)=bV:=rfl
 try dsimp only[aA,asT,aB,aC,Ty.den,Lf.den] at *
 try simp only[hZ,Int.toNat_natCast,aJ,dh,bn,mg,mW,aH,nameAt,aX,aN,aZ,rowAt,iw,gJ]
 try simp only[jK,List.all_cons,List.all_nil,yx,nI,qw,jd,uy,ne_eq,ak,qg,nS,tC,xk,imp_self,AO,and_self,mg,mW,iD,qZ,qO,List.length_cons,List.length_nil]
 have hp:smK 100 n/\smK 13000 g.1:=hp
 obtain⟨g,u2⟩:=g
 obtain⟨p1,p2⟩:=hp
 change smK 13000 g at p2
 have hwd:(n.getD 0 []).length=wdM n:=rfl
 rw[hwd]
 refine⟨⟨by omega,fun a ha=>?_⟩,fun h=>?_,fun h=>?_⟩
 ·rcases oq.mp ha with rfl|ha
  ·exact p1.1
  ·rw[lN.mp ha];exact p2.1
 ·unfold UE;rw[dw (fun hh=>h hh.1 hh.2)]
 ·obtain⟨hM,h7,w7,hC⟩:=p1.at h.1
  obtain⟨gM,g7,x7,gC⟩:=p2.at h.2
  refine⟨⟨by omega,by have:=hM.2.2.1;omega⟩,fun h2=>?_,fun h2=>⟨⟨lG (gX h.1).2,lG (gX h.2).2,?_⟩,fun h3=>?_,fun h3=>?_⟩⟩
  ·unfold UE;rw[eY h,dw (fun hh=>h2.elim (fun h3=>h3 hh.1) (fun h3=>h3 hh.2))]
  ·exact⟨PU hM w7 hC (by omega),PU gM x7 gC (by omega),by rw[RF,kT,h2.1],by rw[kT,kT,h2.2],hC.sz (by omega),gC.sz (by omega)⟩
  ·unfold UE;rw[eY h,eY h2,dw (by rw[h3];decide)]
  ·unfold UE;rw[eY h,eY h2,eY h3]
def yZ (g b:MQ):Prop:=isM g g.length (wdM g)/\isM b g.length (wdM g)/\g.length<=7/\wdM g<=7/\CdM g 100/\CdM b 100
def AV (g b:MQ):MQ × Bool × Unit:=if kR (bgM g b)=true then (sM g b,true,()) else ([],false,())
structure c4g (g b:MQ) (N c:Nat):Prop where
 g1:isM g N c
 b1:isM b N c
 n7:N<=7
 c7:c<=7
 g2:CdM g 100
 b2:CdM b 100
 t1:isM (trM b) c N
 t2:CdM (trM b) 100
 m1:isM (bgM g b) c c
 m2:CdM (bgM g b) 207
 i1:isM (oN (bgM g b)) c c
 i2:CdM (oN (bgM g b)) 26752
 p1:isM (mulM (oN (bgM g b)) (trM b)) c N
 p2:CdM (mulM (oN (bgM g b)) (trM b)) 26860
 q1:isM (mulM g (mulM (oN (bgM g b)) (trM b))) N N
 q2:CdM (mulM g (mulM (oN (bgM g b)) (trM b))) 26970
 s1:isM (sM g b) N N
 s2:CdM (sM g b) 27000
theorem a3S {g b:MQ} (H:yZ g b):c4g g b g.length (wdM g):=by
 obtain⟨g1,b1,n7,c7,g2,b2⟩:=H
 have t1:=b1.trp
 have t2:=b2.trp b1
 have m1:=a0X g1 b1
 have m2:CdM (bgM g b) 207:=(t2.mul g2 t1 g1).mono (by omega)
 have i1:=m1.inv
 have h3:2 ^ wdM g*(207+2)<=128*209:=oh (a3R c7) (aj _)
 have i2:CdM (oN (bgM g b)) 26752:=(m2.inv m1).mono (by omega)
 have p1:=i1.mul t1
 have p2:CdM (mulM (oN (bgM g b)) (trM b)) 26860:=(i2.mul t2 i1 t1).mono (by omega)
 have q1:=g1.mul p1
 have q2:CdM (mulM g (mulM (oN (bgM g b)) (trM b))) 26970:=(g2.mul p2 g1 p1).mono (by omega)
 have d1:=KE g1.2.2.1 g1.2.2.2.1
 exact⟨g1,b1,n7,c7,g2,b2,t1,t2,m1,m2,i1,i2,p1,p2,q1,q2,QB g1,(((a4K g1.2.2.1).sub q2 d1 q1).mono (by omega):CdM (sM g b) 27000)⟩
def c2c:Ctr:=⟨[tM,tM],[tM,tB],fun x=>yZ x.1 x.2.1,fun x=>AV x.1 x.2.1⟩
theorem LM:aY Tryz.prog 60 c2c:=by
 refine bH (((((nil0.ad BO).ad TD).ad a8Y).ad b3u).ad a7g) ⟨[],[],[]⟩ Tryz.func60 rfl (by decide) (fun x=>[]) (fun x hp=>?_)
 obtain⟨g,b,u⟩:=x
 change List (List Rat) at g
 change List (List Rat) at b
 refine bP (let A₂:=(tab (wdM b) b.length (tr (ent b)));let A₁:=(tab A₂.length (wdM g) (mm g.length (ent A₂) (ent g)));let A₀:=(tab (uS A₁).1.length (wdM A₂) (mm A₂.length (ent (uS A₁).1) (ent A₂)));let aV:=(tab g.length (wdM A₀) (mm A₀.length (ent g) (ent A₀)));let aP:=(idM (aA g.length).toNat);(okM b/\True)/\((okM A₂/\okM g/\wdM A₂=List.length g/\szM A₂ 1000000/\szM g 1000000)/\True)/\((okM A₁/\wdM A₁=List.length A₁/\AQ A₁.length (List.length A₁+List.length A₁) (gV A₁.length (ent A₁) idm) A₁.length)/\True)/\ifB (Prod.fst (uS A₁).2 != 0) (True/\aC (List Rat)=Prod.fst (AV g b)/\True/\false=Prod.fst (AV g b).2/\True) (((okM (uS A₁).1/\okM A₂/\wdM (uS A₁).1=List.length A₂/\szM (uS A₁).1 1000000/\szM A₂ 1000000)/\True)/\((okM g/\okM A₀/\wdM g=List.length A₀/\szM g 1000000/\szM A₀ 1000000)/\True)/\((1<=aA g.length/\aA g.length<=64)/\True)/\((okM aP/\okM aV/\List.length aP=List.length aV/\wdM aP=wdM aV)/\True)/\True/\YU aP aV=Prod.fst (AV g b)/\True/\true=Prod.fst (AV g b).2/\True)) (by kernel_rfl) ?_
 try dsimp only[Ty.den,Lf.den,asT] at *
 try simp only[uF,uD,trF,uG]
 have hZ:(⟨false,0,[],[]⟩:aF)=bV:=rfl
 try dsimp only[aA,asT,aB,aC,Ty.den,Lf.den] at *
 try simp only[hZ,Int.toNat_natCast,aJ,dh,bn,mg,mW,aH,nameAt,aX,aN,aZ,rowAt,iw,gJ]
 try simp only[jK,List.all_cons,List.all_nil,yx,nI,qw,jd,uy,ne_eq,ak,qg,nS,tC,xk,imp_self,AO,and_self,mg,mW,iD,qZ,qO,List.length_cons,List.length_nil]
 have F:=a3S (show yZ g b from hp)
 rw[show mulM (trM b) g=bgM g b from rfl]
 have l1:=F.m1.len
 have w1:=F.m1.wd
 have hg:=F.g1.2.2.1
 have h64:=F.n7
 refine⟨F.b2.ok F.b1 (by omega),⟨F.t2.ok F.t1 (by omega),F.g2.ok F.g1 (by omega),F.t1.wd,F.t2.sz (by omega),F.g2.sz (by omega)⟩,⟨F.m2.ok F.m1 (by omega),by rw[l1,w1],?_⟩,fun h=>?_,fun h=>?_⟩
 ·rw[l1]
  have h3:2 ^ wdM g*(207+1+1)<=128*209:=oh (a3R F.c7) (aj _)
  exact ND (F.m2.MI F.m1) (by omega) (by omega)
 ·have e:kR (bgM g b)=false:=by
   cases hr:kR (bgM g b)
   ·rfl
   ·exfalso;apply h;unfold uS;rw[hr];rfl
  unfold AV;rw[e];exact⟨rfl,rfl⟩
 ·have e:kR (bgM g b)=true:=by
   cases hr:kR (bgM g b)
   ·exfalso;unfold uS at h;rw[hr,dw (by decide)] at h;exact absurd h (by decide)
   ·rfl
  have e2:uS (bgM g b)=(oN (bgM g b),0,()):=by unfold uS;rw[e];rfl
  have e3:AV g b=(sM g b,true,()):=by unfold AV;rw[e];rfl
  rw[e2,e3]
  refine⟨⟨F.i2.ok F.i1 (by omega),F.t2.ok F.t1 (by omega),F.i1.wd.trans F.t1.len.symm,F.i2.sz (by omega),F.t2.sz (by omega)⟩,⟨F.g2.ok F.g1 (by omega),F.p2.ok F.p1 (by omega),F.p1.len.symm,F.g2.sz (by omega),F.p2.sz (by omega)⟩,⟨by omega,by omega⟩,⟨(a4K hg).ok (KE hg (by omega)) (by omega),F.q2.ok F.q1 (by omega),?_,?_⟩,rfl,rfl⟩
  ·rw[F.q1.len];exact(KE hg (by omega)).len
  ·rw[F.q1.wd];exact(KE hg (by omega)).wd
def b3T (s q:MQ):Prop:=isM s s.length s.length/\isM q s.length s.length/\s.length<=7/\CdM s 30000/\CdM q 50000
def c1X:Ctr:=⟨[tM,tM],[tM],fun x=>b3T x.1 x.2.1,fun x=>(mulM (mulM x.1 x.2.1) (trM x.1),())⟩
theorem b0H:aY Tryz.prog 69 c1X:=by
 refine bH ((nil0.ad BO).ad TD) ⟨[],[],[]⟩ Tryz.func69 rfl (by decide) (fun x=>[]) (fun x hp=>?_)
 obtain⟨s,q,u⟩:=x
 change List (List Rat) at s
 change List (List Rat) at q
 refine bP (let A₀:=(tab s.length (wdM q) (mm q.length (ent s) (ent q)));let A₁:=(tab (wdM s) s.length (tr (ent s)));(okM s/\True)/\((okM s/\okM q/\wdM s=List.length q/\szM s 1000000/\szM q 1000000)/\True)/\((okM A₀/\okM A₁/\wdM A₀=List.length A₁/\szM A₀ 1000000/\szM A₁ 1000000)/\True)/\True/\tab A₀.length (wdM A₁) (mm A₁.length (ent A₀) (ent A₁))=mulM (mulM s q) (trM s)/\True) (by kernel_rfl) ?_
 try dsimp only[Ty.den,Lf.den,asT] at *
 try simp only[uF,uD,trF,uG]
 have hZ:(⟨false,0,[],[]⟩:aF)=bV:=rfl
 try dsimp only[aA,asT,aB,aC,Ty.den,Lf.den] at *
 try simp only[hZ,Int.toNat_natCast,aJ,dh,bn,mg,mW,aH,nameAt,aX,aN,aZ,rowAt,iw,gJ]
 try simp only[jK,List.all_cons,List.all_nil,yx,nI,qw,jd,uy,ne_eq,ak,qg,nS,tC,xk,imp_self,AO,and_self,mg,mW,iD,qZ,qO,List.length_cons,List.length_nil]
 have hp:b3T s q:=hp
 obtain⟨s1,q1,n7,s2,q2⟩:=hp
 have t1:=s1.trp
 have t2:=s2.trp s1
 have m1:=s1.mul q1
 have m2:CdM (mulM s q) 80007:=(s2.mul q2 s1 q1).mono (by omega)
 exact⟨s2.ok s1 (by omega),⟨s2.ok s1 (by omega),q2.ok q1 (by omega),s1.wd.trans q1.len.symm,s2.sz (by omega),q2.sz (by omega)⟩,⟨m2.ok m1 (by omega),t2.ok t1 (by omega),m1.wd.trans t1.len.symm,m2.sz (by omega),t2.sz (by omega)⟩⟩
end Go.Proofs.YtgplhbhfdgempaaGreat
