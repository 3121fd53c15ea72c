/-
  Lemmas for the theorem vrelative28_holds, part 27 of 35.
-/
import Derived.Test.YtbkocjmmbkifjaaGreatQr26
namespace Go.Proofs.YtbkocjmmbkifjaaGreat
open Go Go.RowKit
set_option maxRecDepth 100000
set_option maxHeartbeats 1000000
set_option linter.unusedVariables false
set_option linter.unusedSimpArgs false
abbrev TUn:List Ty:=[]
def b6A (c:(nest TUn).den) (i j:Int):Prop:=0<=i/\0<=j
def gUn (c:(nest TUn).den) (i j:Nat):Rat:=idm i j
theorem XY:aJ Tryz.prog 221 (WJ TUn b6A gUn):=by
 refine kL (nil0.ad oG) [4] Tryz.func221 rfl (by decide) (fun x=>[]) (fun x hp=>?_);obtain⟨i,j,c⟩:=x;change Int at i;change Int at j;have hu:c=():=rfl;refine aP (ifB (i==j) ((aV 1/\True)/\True/\aH 1=gUn c i.toNat j.toNat/\True) ((aV 0/\True)/\True/\aH 0=gUn c i.toNat j.toNat/\True)) (by kernel_rfl) ?_;try dsimp only[aB,asT,aA,aC] at *
 have h1:0<=i/\0<=j:=hp;refine gZ.mpr ⟨fun h=>⟨⟨by unfold aV;omega,trivial⟩,trivial,?_,trivial⟩,fun h=>⟨⟨by unfold aV;omega,trivial⟩,trivial,?_,trivial⟩⟩
 ·have h:i=j:=by simpa using h
  show ((1:Int):Rat)=if i.toNat=j.toNat then 1 else 0
  rw[dn (by rw[h])];rfl
 ·have h:i≠j:=by simpa using h
  show ((0:Int):Rat)=if i.toNat=j.toNat then 1 else 0
  rw[bn (by omega)];rfl
abbrev TAd:List Ty:=[.ref tM,.ref tM]
def b6q (c:(nest TAd).den) (i j:Int):Prop:=(0<=i/\i.toNat<(show MQ from c.1).length/\i.toNat<(show MQ from c.2.1).length/\0<=j/\j.toNat<((show MQ from c.1).getD i.toNat []).length/\j.toNat<((show MQ from c.2.1).getD i.toNat []).length)/\s44 (ent c.1 i.toNat j.toNat) (ent c.2.1 i.toNat j.toNat)
def gAd (c:(nest TAd).den) (i j:Nat):Rat:=ent c.1 i j+ent c.2.1 i j
theorem XM:aJ Tryz.prog 189 (WJ TAd b6q gAd):=by
 refine kL (nil0.ad wB) [6] Tryz.func189 rfl (by decide) (fun x=>[]) (fun x hp=>?_);obtain⟨i,j,c⟩:=x;change Int at i;change Int at j;obtain⟨a,b,u⟩:=c;change List (List Rat) at a;change List (List Rat) at b;refine aP ((0<=i/\i<aB a.length/\0<=j/\j<aB (List.getD a i.toNat (aC Rat)).length/\0<=i/\i<aB b.length/\0<=j/\j<aB (List.getD b i.toNat (aC Rat)).length/\s44 (List.getD (List.getD a i.toNat (aC Rat)) j.toNat 0) (List.getD (List.getD b i.toNat (aC Rat)) j.toNat 0)/\True)/\True/\List.getD (List.getD a i.toNat (aC Rat)) j.toNat 0+List.getD (List.getD b i.toNat (aC Rat)) j.toNat 0=gAd (a,b,u) i.toNat j.toNat/\True) (by kernel_rfl) ?_;try dsimp only[aB,asT,aA,aC] at *
 have h1:(0<=i/\i.toNat<a.length/\i.toNat<b.length/\0<=j/\j.toNat<(a.getD i.toNat []).length/\j.toNat<(b.getD i.toNat []).length)/\s44 (ent a i.toNat j.toNat) (ent b i.toNat j.toNat):=hp;obtain⟨⟨k1,k2,k3,k4,k5,k6⟩,k7⟩:=h1;exact⟨⟨k1,by omega,k4,by omega,k1,by omega,k4,by omega,k7,trivial⟩,trivial,rfl,trivial⟩
abbrev TSb:List Ty:=[.ref tM,.ref tM]
def b6x (c:(nest TSb).den) (i j:Int):Prop:=(0<=i/\i.toNat<(show MQ from c.1).length/\i.toNat<(show MQ from c.2.1).length/\0<=j/\j.toNat<((show MQ from c.1).getD i.toNat []).length/\j.toNat<((show MQ from c.2.1).getD i.toNat []).length)/\s44 (ent c.1 i.toNat j.toNat) (ent c.2.1 i.toNat j.toNat)
def gSb (c:(nest TSb).den) (i j:Nat):Rat:=ent c.1 i j-ent c.2.1 i j
theorem XU:aJ Tryz.prog 188 (WJ TSb b6x gSb):=by
 refine kL (nil0.ad JR) [6] Tryz.func188 rfl (by decide) (fun x=>[]) (fun x hp=>?_);obtain⟨i,j,c⟩:=x;change Int at i;change Int at j;obtain⟨a,b,u⟩:=c;change List (List Rat) at a;change List (List Rat) at b;refine aP ((0<=i/\i<aB a.length/\0<=j/\j<aB (List.getD a i.toNat (aC Rat)).length/\0<=i/\i<aB b.length/\0<=j/\j<aB (List.getD b i.toNat (aC Rat)).length/\s44 (List.getD (List.getD a i.toNat (aC Rat)) j.toNat 0) (List.getD (List.getD b i.toNat (aC Rat)) j.toNat 0)/\True)/\True/\List.getD (List.getD a i.toNat (aC Rat)) j.toNat 0-List.getD (List.getD b i.toNat (aC Rat)) j.toNat 0=gSb (a,b,u) i.toNat j.toNat/\True) (by kernel_rfl) ?_;try dsimp only[aB,asT,aA,aC] at *
 have h1:(0<=i/\i.toNat<a.length/\i.toNat<b.length/\0<=j/\j.toNat<(a.getD i.toNat []).length/\j.toNat<(b.getD i.toNat []).length)/\s44 (ent a i.toNat j.toNat) (ent b i.toNat j.toNat):=hp;obtain⟨⟨k1,k2,k3,k4,k5,k6⟩,k7⟩:=h1;exact⟨⟨k1,by omega,k4,by omega,k1,by omega,k4,by omega,k7,trivial⟩,trivial,rfl,trivial⟩
abbrev TBe:List Ty:=[.ref tM,.ref tM]
def b6r (c:(nest TBe).den) (i j:Int):Prop:=0<=i/\i.toNat<(show MQ from c.1).length/\i.toNat<(show MQ from c.2.1).length/\0<=j/\(show MQ from c.1).length<=1000/\((show MQ from c.1).getD i.toNat []).length=wdM (show MQ from c.1)/\j.toNat<wdM (show MQ from c.1)+((show MQ from c.2.1).getD i.toNat []).length/\j<=1000
def gBe (c:(nest TBe).den) (i j:Nat):Rat:=kF (wdM (show MQ from c.1)) (ent c.1) (ent c.2.1) i j
theorem XO:aJ Tryz.prog 274 (WJ TBe b6r gBe):=by
 refine kL nil0 [6] Tryz.func274 rfl (by decide) (fun x=>[]) (fun x hp=>?_);obtain⟨i,j,c⟩:=x;change Int at i;change Int at j;obtain⟨a,b,u⟩:=c;change List (List Rat) at a;change List (List Rat) at b;refine aP ((asT Int 0<=0/\0<aB a.length/\True)/\ifB (decide (j<aB (List.getD a 0 (aC Rat)).length)) ((0<=i/\i<aB a.length/\0<=j/\j<aB (List.getD a i.toNat (aC Rat)).length/\True)/\True/\List.getD (List.getD a i.toNat (aC Rat)) j.toNat 0=gBe (a,b,u) i.toNat j.toNat/\True) ((0<=i/\i<aB b.length/\asT Int 0<=0/\0<aB a.length/\0<=IntKind.wrap IntKind.i64 (j-aB (List.getD a 0 (aC Rat)).length)/\IntKind.wrap IntKind.i64 (j-aB (List.getD a 0 (aC Rat)).length)<aB (List.getD b i.toNat (aC Rat)).length/\True)/\True/\List.getD (List.getD b i.toNat (aC Rat)) (IntKind.wrap IntKind.i64 (j-aB (List.getD a 0 (aC Rat)).length)).toNat 0=gBe (a,b,u) i.toNat j.toNat/\True)) (by kernel_rfl) ?_;try dsimp only[aB,asT,aA,aC] at *
 have h1:0<=i/\i.toNat<a.length/\i.toNat<b.length/\0<=j/\a.length<=1000/\(a.getD i.toNat []).length=wdM a/\j.toNat<wdM a+(b.getD i.toNat []).length/\j<=1000:=hp;obtain⟨k1,k2,k3,k4,k5,k6,k7,k8⟩:=h1;have hw:(a.getD 0 []).length=wdM a:=rfl;rw[hw];refine⟨⟨Aw 0,by omega,trivial⟩,gZ.mpr ⟨fun h=>?_,fun h=>?_⟩⟩
 ·have h:j<(wdM a:Int):=qj h;refine⟨⟨k1,by omega,k4,by rw[k6];exact h,trivial⟩,trivial,?_,trivial⟩;show ent a i.toNat j.toNat=if j.toNat<wdM a then _ else _
  rw[dn (by omega)]
 ·have h:¬ j<(wdM a:Int):=uj h;have e:IntKind.wrap .i64 (j-(wdM a:Int))=j-(wdM a:Int):=aG (by omega) (by omega);rw[e];refine⟨⟨k1,by omega,Aw 0,by omega,by omega,by omega,trivial⟩,trivial,?_,trivial⟩;show ent b i.toNat (j-(wdM a:Int)).toNat=if j.toNat<wdM a then _ else _
  rw[bn (by omega),show (j-(wdM a:Int)).toNat=j.toNat-wdM a by omega]
abbrev TIn:List Ty:=[.ref tMR,.ref tI]
def b6t (c:(nest TIn).den) (i j:Int):Prop:=0<=i/\i.toNat<(show MR from c.1).length/\0<=j/\j<=1000/\0<=(show Int from c.2.1)/\(show Int from c.2.1)<=1000/\(show Int from c.2.1).toNat+j.toNat<((show MR from c.1).getD i.toNat []).length/\(((show MR from c.1).getD i.toNat []).getD ((show Int from c.2.1).toNat+j.toNat) bP).ok=true
def gIn (c:(nest TIn).den) (i j:Nat):Rat:=FK c.1 i ((show Int from c.2.1).toNat+j)
theorem XQ:aJ Tryz.prog 237 (WJ TIn b6t gIn):=by
 refine kL nil0 [6] Tryz.func237 rfl (by decide) (fun x=>[]) (fun x hp=>?_);obtain⟨i,j,c⟩:=x;change Int at i;change Int at j;obtain⟨a,n,u⟩:=c;change List (List aI) at a;change Int at n;refine aP (let A₁:=(List.getD a i.toNat (aC aI));let A₀:=(List.getD A₁ (IntKind.wrap IntKind.i64 (n+j)).toNat { ok:=false,x:=0,g:=aC Nat,h:=aC Nat });(0<=i/\i<aB a.length/\0<=IntKind.wrap IntKind.i64 (n+j)/\IntKind.wrap IntKind.i64 (n+j)<aB A₁.length/\True)/\(aI.ok A₀=true/\True)/\aI.x A₀=gIn (a,n,u) i.toNat j.toNat/\True) (by kernel_rfl) ?_;try dsimp only[aB,asT,aA,aC] at *
 have h1:0<=i/\i.toNat<a.length/\0<=j/\j<=1000/\0<=n/\n<=1000/\n.toNat+j.toNat<(a.getD i.toNat []).length/\((a.getD i.toNat []).getD (n.toNat+j.toNat) bP).ok=true:=hp;obtain⟨k1,k2,k3,k4,k5,k6,k7,k8⟩:=h1;have e:IntKind.wrap .i64 (n+j)=n+j:=aG (by omega) (by omega);have e2:(n+j).toNat=n.toNat+j.toNat:=by omega
 rw[e,e2];exact⟨⟨k1,by omega,by omega,by omega,trivial⟩,⟨k8,trivial⟩,rfl,trivial⟩
theorem b7B {a b:MQ} (ha:okM a) (hb:okM b):MC [liftM a,liftM b]=0:=a5N fun m hm=>by
 rcases jh.mp hm with rfl|hm
 ·exact ha.chk
 ·rw[mg.mp hm];exact hb.chk
theorem a9y {a b:MQ} (ha:okM a) (hb:okM b):∀ m ∈ [liftM a,liftM b],rH m:=fun m hm=>by
 rcases jh.mp hm with rfl|hm
 ·exact ha.short
 ·rw[mg.mp hm];exact hb.short
theorem c6C {R C n:Nat} {f:Mt} (hn:n<=C):(red R (FK (aY R C f)) n).2=(red R f n).2/\∀ i,i<R->∀ c,c<C->(red R (FK (aY R C f)) n).1 i c=(red R f n).1 i c:=a3y (fun i hi c hc=>TF hi hc) n hn
theorem b3i {R C n:Nat} {f:Mt} (r1:1<=R) (r2:R<=1000) (c1:1<=C) (c2:C<=1000) (hn:n<=C) (H:UY R C f n):b3h (aY R C f) (n:Int):=by
 have hw:wdM (aY R C f)=C:=by show ((aY R C f).getD 0 []).length=C;rw[jT (by omega)];simp
 unfold b3h;rw[gW,hw];refine⟨iI fun i hi j hj=>(TF hi hj).symm,r1,r2,c1,c2,by omega,by omega,fun t ht i hi c hc=>?_⟩;rw[(c6C (by have:t<=n:=ht;omega)).2 i hi c hc];exact H t ht i hi c hc
set_option maxHeartbeats 4000000
abbrev a9K:Type:=Int × Int × Int × Unit
abbrev aT:Type:=Int × Int × Int × Int × Unit
abbrev dQ:Type:=a9K × aT × Int × c4w × Unit
def eH (a b:dQ):LQ':=[aH (b.1.1-a.1.1),aH (b.1.2.1-a.1.2.1),aH (b.1.2.2.1-a.1.2.2.1)]
noncomputable def c7j:Ctr:=⟨[FU,FU],[.list tQ],fun x=>(cdI x.1.1.1/\cdI x.1.1.2.1/\cdI x.1.1.2.2.1)/\(cdI x.2.1.1.1/\cdI x.2.1.1.2.1/\cdI x.2.1.1.2.2.1),fun x=>(eH x.1 x.2.1,())⟩
theorem a9R:aJ Tryz.prog 30 c7j:=by
 refine aN (nil0.ad NT) ⟨[],[],[]⟩ Tryz.func30 rfl (by decide) (fun x=>[]) (fun x hp=>?_);obtain⟨a,b,u⟩:=x;change dQ at a;change dQ at b;refine aP (let A₀:=(IntKind.wrap IntKind.i64 (asT Int b.1.2.2.1-asT Int a.1.2.2.1));let A₁:=(IntKind.wrap IntKind.i64 (asT Int b.1.2.1-asT Int a.1.2.1));let A₂:=(IntKind.wrap IntKind.i64 (asT Int b.1.1-asT Int a.1.1));(aV A₂/\aV A₁/\aV A₀/\True)/\True/\aH A₂::aH A₁::aH A₀::aC Rat=eH a b/\True) (by kernel_rfl) ?_;try simp only[zP0]
 try dsimp only[aB,asT,aA,aC,Ty.den,Lf.den] at *
 try simp only[zP1]
 try simp only[zP2]
 obtain⟨⟨⟨a1,a2⟩,⟨a3,a4⟩,a5,a6⟩,⟨b1,b2⟩,⟨b3,b4⟩,b5,b6⟩:(cdI a.1.1/\cdI a.1.2.1/\cdI a.1.2.2.1)/\(cdI b.1.1/\cdI b.1.2.1/\cdI b.1.2.2.1):=hp;rw[aG (by omega) (by omega),aG (by omega) (by omega),aG (by omega) (by omega)];exact⟨⟨⟨by omega,by omega⟩,⟨by omega,by omega⟩,by omega,by omega⟩,rfl⟩
def kW (v:LQ'):MQ:=[[aH 0,-lv v 2,lv v 1],[lv v 2,aH 0,-lv v 0],[-lv v 1,lv v 0,aH 0]]
noncomputable def c7z:Ctr:=⟨[.list tQ],[tM],fun x=>(show LQ' from x.1).length=3/\∀ q ∈ (show LQ' from x.1),rsz q<=1000,fun x=>(kW x.1,())⟩
theorem b0A:aJ Tryz.prog 34 c7z:=by
 refine aN ((nil0.ad a7w).ad NT) ⟨[3],[],[]⟩ Tryz.func34 rfl (by decide) (fun x=>[]) (fun x hp=>?_);obtain⟨v,u⟩:=x;change List Rat at v;refine aP ((aV 0/\True)/\(asT Int 0<=2/\2<aB v.length/\rsz (List.getD v 2 0)<=190000000/\asT Int 0<=1/\1<aB v.length/\asT Int 0<=2/\2<aB v.length/\asT Int 0<=0/\0<aB v.length/\rsz (List.getD v 0 0)<=190000000/\asT Int 0<=1/\1<aB v.length/\rsz (List.getD v 1 0)<=190000000/\asT Int 0<=0/\0<aB v.length/\True)/\True/\(aH 0::-List.getD v 2 0::List.getD v 1 0::aC Rat)::(List.getD v 2 0::aH 0::-List.getD v 0 0::aC Rat)::(-List.getD v 1 0::List.getD v 0 0::aH 0::aC Rat)::aC (List Rat)=kW v/\True) (by kernel_rfl) ?_;try simp only[zP0]
 try dsimp only[aB,asT,aA,aC,Ty.den,Lf.den] at *
 try simp only[zP1]
 try simp only[zP2]
 obtain⟨h3,hs⟩:v.length=3/\∀ q ∈ v,rsz q<=1000:=hp;have b:∀ i,i<3->rsz (v.getD i 0)<=1000:=fun i hi=>cO hs (by omega);have b0:=b 0 (by omega);have b1:=b 1 (by omega);have b2:=b 2 (by omega);exact⟨by decide,⟨by omega,by omega,by omega,by omega,by omega,by omega,by omega,by omega,by omega,by omega,by omega,by omega,by omega,by omega,by omega⟩,rfl⟩
set_option maxHeartbeats 1000000
theorem ZA:NOk Tryz.prog 184 (GH 221 TUn b6A gUn):=by refine qY ((((nil0.an jP).an jR).an jQ).ad XY) ⟨[],[],[(11,tR)]⟩ Es rfl (by decide) (fun x=>rQ x.1 x.2.1 (gUn x.2.2.1)) (fun x hp=>?_);obtain⟨m,n,c,u⟩:=x;obtain⟨R,C,hR,hC,r2,c2,hP⟩:=hp;change m=(R:Int) at hR;change n=(C:Int) at hC;subst hR hC;refine aP (tC R C (gUn c) (b6A c) (fun y=>aY R C (gUn c)=y)) (by kernel_rfl) ?_;exact lC r2 c2 hP rfl
theorem YX:NOk Tryz.prog 184 (GH 274 TBe b6r gBe):=by refine qY ((((nil0.an jP).an jR).an jQ).ad XO) ⟨[],[],[(11,tR)]⟩ Es rfl (by decide) (fun x=>rQ x.1 x.2.1 (gBe x.2.2.1)) (fun x hp=>?_);obtain⟨m,n,c,u⟩:=x;obtain⟨R,C,hR,hC,r2,c2,hP⟩:=hp;change m=(R:Int) at hR;change n=(C:Int) at hC;subst hR hC;refine aP (tC R C (gBe c) (b6r c) (fun y=>aY R C (gBe c)=y)) (by kernel_rfl) ?_;exact lC r2 c2 hP rfl
theorem YZ:NOk Tryz.prog 184 (GH 237 TIn b6t gIn):=by refine qY ((((nil0.an jP).an jR).an jQ).ad XQ) ⟨[],[],[(11,tR)]⟩ Es rfl (by decide) (fun x=>rQ x.1 x.2.1 (gIn x.2.2.1)) (fun x hp=>?_);obtain⟨m,n,c,u⟩:=x;obtain⟨R,C,hR,hC,r2,c2,hP⟩:=hp;change m=(R:Int) at hR;change n=(C:Int) at hC;subst hR hC;refine aP (tC R C (gIn c) (b6t c) (fun y=>aY R C (gIn c)=y)) (by kernel_rfl) ?_;exact lC r2 c2 hP rfl
noncomputable def c8V:lK:=.mk LKm [tM,tM] (fun x=>okM x.1/\okM x.2.1/\(show MQ from x.1).length=(show MQ from x.2.1).length) (fun x=>aY (show MQ from x.1).length (wdM (show MQ from x.1)+wdM (show MQ from x.2.1)) (kF (wdM (show MQ from x.1)) (ent x.1) (ent x.2.1)))
theorem c4B:NOk Tryz.prog 235 c8V:=by
 refine qY (((((((nil0.an jP).an jR).an jQ).ad XO).an ZA).an YX).an YZ) ⟨[],[],[]⟩ Tryz.func235 rfl (by decide) (fun x=>[]) (fun x hp=>?_);obtain⟨a,b,u⟩:=x;change List (List Rat) at a;change List (List Rat) at b;refine aP ((asT Int 0<=0/\0<aB a.length/\asT Int 0<=0/\0<aB b.length/\BO TBe b6r (aB a.length,IntKind.wrap IntKind.i64 (aB (List.getD a 0 (aC Rat)).length+aB (List.getD b 0 (aC Rat)).length),(a,b,()),())/\True)/\aY a.length (wdM a+wdM b) (kF (wdM a) (ent a) (ent b))=aY (aB a.length).toNat (IntKind.wrap IntKind.i64 (aB (List.getD a 0 (aC Rat)).length+aB (List.getD b 0 (aC Rat)).length)).toNat (gBe (a,b,()))) (by kernel_rfl) ?_;have hp:okM a/\okM b/\a.length=b.length:=hp;obtain⟨ha,hb,hl⟩:=hp;have q1:=ha.c64;have q2:=hb.c64;have q3:=ha.r64;have e:IntKind.wrap .i64 ((wdM a:Int)+(wdM b:Int))=((wdM a+wdM b:Nat):Int):=by rw[aG (by omega) (by omega)];rfl
 dsimp only[aB,asT,aA,aC];rw[show (a.getD 0 []).length=wdM a from rfl,show (b.getD 0 []).length=wdM b from rfl,e];refine⟨⟨Aw 0,ha.poz,Aw 0,hb.poz,⟨a.length,wdM a+wdM b,rfl,rfl,by omega,by omega,fun i j hi hj=>?_⟩,trivial⟩,rfl⟩;exact⟨oh i,hi,by show i<b.length;omega,oh j,by show a.length<=1000;omega,ha.row hi,by show j<wdM a+(b.getD i []).length;rw[hb.row (by omega)];exact hj,by omega⟩
def MZ (a:MQ):MQ × Int × Unit:=if WX a=true then (wZ a,0,()) else ([],14,())
noncomputable def c7L:Ctr:=⟨[tM],[tM,tI],fun x=>okM x.1/\wdM (show MQ from x.1)=(show MQ from x.1).length/\UY (show MQ from x.1).length ((show MQ from x.1).length+(show MQ from x.1).length) (kF (show MQ from x.1).length (ent x.1) idm) (show MQ from x.1).length,fun x=>MZ x.1⟩
theorem b5H:aJ Tryz.prog 154 c7L:=by
 refine aN (((((((((((nil0.an jP).an jR).an jQ).ad VN).ad XY).ad XQ).an ZA).an YX).an YZ).an c4B).an c6D) ⟨[5,6],[6],[]⟩ Tryz.func154 rfl (by decide) (fun x=>[]) (fun x hp=>?_);obtain⟨a,u⟩:=x;change List (List Rat) at a;refine aP (let A₂:=(aB a.length).toNat;let aO:=(fun(x:Ty.den (Ty.list (Ty.lf Lf.fO)))=>dH (fV (fun(x:Ty.den (Ty.lf Lf.fO))=>dH ((aI.ok x=true)::aC Cd)) x::aC Cd));let bC:=(fun(xs:Ty.den (Ty.list (Ty.lf Lf.fO)))=>List.map (fun(x:Ty.den (Ty.lf Lf.fO))=>aI.x x) xs);let bI:=(rowsOf none (aY A₂ A₂ (gUn ())));let A₁:=(List.map bC bI);let A₀:=(aY a.length (wdM a+wdM A₁) (kF (wdM a) (ent a) (ent A₁)));let aK:=(rowsOf none (aY A₀.length (wdM A₀) (rdm A₀ A₂)),aB a.length,());(okM a/\True)/\ifB (sqC a != 0) (True/\aC (List Rat)=Prod.fst (MZ a)/\True/\sqC a=Prod.fst (MZ a).2/\True) ((BO TUn b6A (aB a.length,aB a.length,(),())/\fV aO bI/\(okM a/\okM A₁/\List.length a=List.length A₁)/\True)/\(b3h A₀ (aB a.length)/\True)/\ifB (decide (aB (iH (rdp A₀ A₂)).length<aB a.length)) (True/\aC (List Rat)=Prod.fst (MZ a)/\True/\14=Prod.fst (MZ a).2/\True) ((BO TIn b6t (aB a.length,aB a.length,aK,())/\True)/\(fV aO (aY A₂ A₂ (gIn aK))/\True)/\List.map bC (aY A₂ A₂ (gIn aK))=Prod.fst (MZ a)/\True/\0=Prod.fst (MZ a).2/\True))) (by kernel_rfl) ?_;have hZ:(⟨false,0,[],[]⟩:aI)=bP:=rfl;dsimp only[aB,asT,aA,aC,Ty.den,Lf.den] at *
 simp only[hZ,Int.toNat_natCast,gZ,jc,jv,Dt,Cb,aW,nameAt,bW,gW,jG,rowAt,qp,jr];have hp:okM a/\wdM a=a.length/\UY a.length (a.length+a.length) (kF a.length (ent a) idm) a.length:=hp;obtain⟨ha,hw,hok⟩:=hp;have q1:=ha.r64;have q3:=ha.pos;have eI:List.map (fun xs=>List.map (fun x=>aI.x x) xs) (rowsOf none (aY a.length a.length (gUn ())))=idM a.length:=DF _ _ _;have hI:isM (idM a.length) a.length a.length:=c0c q3 q1;have hIk:okM (idM a.length):=(b9a q3).ok hI (by omega);have eB:aY a.length (a.length+a.length) (kF a.length (ent a) (ent (idM a.length)))=aY a.length (a.length+a.length) (kF a.length (ent a) idm):=iI fun i hi j hj=>by
  unfold kF;split
  ·rfl
  ·exact eF hi (by omega)
 have hB:wdM (aY a.length (a.length+a.length) (kF a.length (ent a) idm))=a.length+a.length:=by show ((aY a.length (a.length+a.length) (kF a.length (ent a) idm)).getD 0 []).length=_;rw[jT q3];simp
 have hX:=c6C (R:=a.length) (C:=a.length+a.length) (n:=a.length) (f:=kF a.length (ent a) idm) (by omega);have hP:=b3i (R:=a.length) (C:=a.length+a.length) (n:=a.length) (f:=kF a.length (ent a) idm) q3 (by omega) (by omega) (by omega) (by omega) hok;have hsq:sqC a=0:=dn hw.symm;simp only[eI,hI.wd,hw,eB,hB,hI.len,hsq];have hp2:(rdp (aY a.length (a.length+a.length) (kF a.length (ent a) idm)) a.length)=(QC a).2:=by show (red (aY _ _ _).length _ _).2=_;rw[gW];exact hX.1
 have hm2:∀ i,i<a.length->∀ c,c<a.length+a.length->rdm (aY a.length (a.length+a.length) (kF a.length (ent a) idm)) a.length i c=(QC a).1 i c:=fun i hi c hc=>by show (red (aY _ _ _).length _ _).1 i c=_;rw[gW];exact hX.2 i hi c hc
 rw[hp2];refine⟨ha,fun h=>(by cases h),fun _=>⟨⟨⟨a.length,a.length,rfl,rfl,by omega,by omega,fun i j _ _=>⟨oh i,oh j⟩⟩,wO _ _ _,ha,hIk,trivial⟩,hP,fun h=>?_,fun h=>?_⟩⟩
 ·try simp only[jc] at h
  rw[UA] at h;have hr:WX a=false:=iy (by omega);have e:MZ a=([],14,()):=by unfold MZ;rw[hr];rfl
  rw[e];exact⟨rfl,rfl⟩
 ·try simp only[jv] at h
  rw[UA] at h;have hle:(QC a).2.length<=a.length:=(wL a.length (kF a.length (ent a) idm) a.length).le;have hr:WX a=true:=jg (by omega);have e:MZ a=(wZ a,0,()):=by unfold MZ;rw[hr];rfl
  rw[e];have hrow:∀ i,i<a.length->(rowsOf none (aY a.length (a.length+a.length) (rdm (aY a.length (a.length+a.length) (kF a.length (ent a) idm)) a.length))).getD i []=(List.range (a.length+a.length)).map (fun c=>dK (rdm (aY a.length (a.length+a.length) (kF a.length (ent a) idm)) a.length i c)):=fun i hi=>jT hi;refine⟨⟨a.length,a.length,rfl,rfl,by omega,by omega,fun i j hi hj=>?_⟩,wO _ _ _,(DF _ _ _).trans (uS fun i hi j hj=>?_),rfl⟩
  ·have hi:i<a.length:=hi;have hj:j<a.length:=hj;refine⟨oh i,by show i<(aY _ _ _).length;rw[gW];exact hi,oh j,by omega,oh _,by show (a.length:Int)<=1000;omega,?_,?_⟩
   ·show a.length+j<((rowsOf none (aY a.length (a.length+a.length) (rdm (aY a.length (a.length+a.length) (kF a.length (ent a) idm)) a.length))).getD i []).length;rw[hrow i hi];simp;omega
   ·show (((rowsOf none (aY a.length (a.length+a.length) (rdm (aY a.length (a.length+a.length) (kF a.length (ent a) idm)) a.length))).getD i []).getD (a.length+j) bP).ok=true;rw[hrow i hi,iL (by omega)];rfl
  ·show FK (aY a.length (a.length+a.length) (rdm (aY a.length (a.length+a.length) (kF a.length (ent a) idm)) a.length)) i (a.length+j)=(QC a).1 i (a.length+j);rw[TF hi (by omega)];exact hm2 i hi _ (by omega)
abbrev TSc:List Ty:=[.ref tQ,.ref tM]
def b6y (c:(nest TSc).den) (i j:Int):Prop:=(0<=i/\i.toNat<(show MQ from c.2.1).length/\0<=j/\j.toNat<((show MQ from c.2.1).getD i.toNat []).length)/\s44 c.1 (ent c.2.1 i.toNat j.toNat)
def gSc (c:(nest TSc).den) (i j:Nat):Rat:=(show Rat from c.1)*ent c.2.1 i j
theorem XV:aJ Tryz.prog 185 (WJ TSc b6y gSc):=by
 refine kL (nil0.ad rM) [6] Tryz.func185 rfl (by decide) (fun x=>[]) (fun x hp=>?_);obtain⟨i,j,c⟩:=x;change Int at i;change Int at j;obtain⟨q,a,u⟩:=c;change Rat at q;change List (List Rat) at a;refine aP ((0<=i/\i<aB a.length/\0<=j/\j<aB (List.getD a i.toNat (aC Rat)).length/\s44 q (List.getD (List.getD a i.toNat (aC Rat)) j.toNat 0)/\True)/\True/\q*List.getD (List.getD a i.toNat (aC Rat)) j.toNat 0=gSc (q,a,u) i.toNat j.toNat/\True) (by kernel_rfl) ?_;try dsimp only[aB,asT,aA,aC] at *
 have h1:(0<=i/\i.toNat<a.length/\0<=j/\j.toNat<(a.getD i.toNat []).length)/\s44 q (ent a i.toNat j.toNat):=hp;obtain⟨⟨k1,k2,k3,k4⟩,k5⟩:=h1;exact⟨⟨k1,by omega,k3,by omega,k5,trivial⟩,trivial,rfl,trivial⟩
theorem NH:NOk Tryz.prog 184 (GH 189 TAd b6q gAd):=by refine qY ((((nil0.an jP).an jR).an jQ).ad XM) ⟨[],[],[(11,tR)]⟩ Es rfl (by decide) (fun x=>rQ x.1 x.2.1 (gAd x.2.2.1)) (fun x hp=>?_);obtain⟨m,n,c,u⟩:=x;obtain⟨R,C,hR,hC,r2,c2,hP⟩:=hp;change m=(R:Int) at hR;change n=(C:Int) at hC;subst hR hC;refine aP (tC R C (gAd c) (b6q c) (fun y=>aY R C (gAd c)=y)) (by kernel_rfl) ?_;exact lC r2 c2 hP rfl
theorem NI:NOk Tryz.prog 184 (GH 188 TSb b6x gSb):=by refine qY ((((nil0.an jP).an jR).an jQ).ad XU) ⟨[],[],[(11,tR)]⟩ Es rfl (by decide) (fun x=>rQ x.1 x.2.1 (gSb x.2.2.1)) (fun x hp=>?_);obtain⟨m,n,c,u⟩:=x;obtain⟨R,C,hR,hC,r2,c2,hP⟩:=hp;change m=(R:Int) at hR;change n=(C:Int) at hC;subst hR hC;refine aP (tC R C (gSb c) (b6x c) (fun y=>aY R C (gSb c)=y)) (by kernel_rfl) ?_;exact lC r2 c2 hP rfl
theorem UM:NOk Tryz.prog 184 (GH 185 TSc b6y gSc):=by refine qY ((((nil0.an jP).an jR).an jQ).ad XV) ⟨[],[],[(11,tR)]⟩ Es rfl (by decide) (fun x=>rQ x.1 x.2.1 (gSc x.2.2.1)) (fun x hp=>?_);obtain⟨m,n,c,u⟩:=x;obtain⟨R,C,hR,hC,r2,c2,hP⟩:=hp;change m=(R:Int) at hR;change n=(C:Int) at hC;subst hR hC;refine aP (tC R C (gSc c) (b6y c) (fun y=>aY R C (gSc c)=y)) (by kernel_rfl) ?_;exact lC r2 c2 hP rfl
noncomputable def c4K:Ctr:=⟨[tM,tM],[tI],fun x=>okM x.1/\okM x.2.1/\(show MQ from x.1).length=(show MQ from x.2.1).length/\wdM (show MQ from x.1)=wdM (show MQ from x.2.1),fun x=>((0:Int),())⟩
theorem a2a:aJ Tryz.prog 187 c4K:=by
 refine aN (nil0.ad OZ) ⟨[],[],[]⟩ Tryz.func187 rfl (by decide) (fun x=>[]) (fun x hp=>?_);obtain⟨a,b,u⟩:=x;change List (List Rat) at a;change List (List Rat) at b;refine aP (let aK:=(a::b::aC (List (List Rat)));let bC:=(aB a.length != aB b.length);let A₀:=(bC==false);let aO:=(A₀=true->A₀=true/\True);let bI:=(Ty.list (Ty.lf Lf.rat));let A₁:=(fun(xs:Ty.den (Ty.list bI))=>List.map (fun(xs:Ty.den bI)=>List.map (fun(x:Ty.den (Ty.lf Lf.rat))=>dK x) xs) xs);let A₂:=(fun(x:Ty.den bI)=>dH (fV (fun(x:Ty.den (Ty.lf Lf.rat))=>dH (aC Cd)) x::aC Cd));(((fV A₂ a/\True)/\(fV A₂ b/\True)/\True)/\(List.length (List.map A₁ aK)<=1000000/\∀ (a_1:List (List aI)),a_1 ∈ List.map A₁ aK->rH a_1)/\True)/\ifB (MC (List.map A₁ aK) != 0) (True/\MC (List.map A₁ aK)=0/\True) (((A₀=true->A₀=true/\asT Int 0<=0/\0<aB a.length/\True)/\aO/\aO/\(A₀=true->A₀=true/\asT Int 0<=0/\0<aB b.length/\True)/\aO/\aO/\(A₀=true->A₀=true/\A₀=true/\True)/\(bC=false->A₀=true)/\True)/\ifB (bif aB a.length != aB b.length then true else aB (List.getD a 0 (aC Rat)).length != aB (List.getD b 0 (aC Rat)).length) (True/\asT Int 4=0/\True) (True/\asT Int 0=0/\True))) (by kernel_rfl) ?_;have hp:okM a/\okM b/\a.length=b.length/\wdM a=wdM b:=hp;obtain⟨ha,hb,hl,hw⟩:=hp;have e:((a.length:Int) != (b.length:Int))=false:=by rw[hl];simp
 refine⟨⟨⟨⟨rJ a,trivial⟩,⟨rJ b,trivial⟩,trivial⟩,⟨by show 2<=1000000;omega,a9y ha hb⟩,trivial⟩,ifF (a1p (b7B ha hb)) ⟨?_,ifF ?_ ⟨trivial,rfl,trivial⟩⟩⟩
 ·dsimp only[aB,asT];rw[e];exact⟨fun _=>⟨rfl,Aw 0,ha.poz,trivial⟩,fun h=>⟨h,trivial⟩,fun h=>⟨h,trivial⟩,fun _=>⟨rfl,Aw 0,hb.poz,trivial⟩,fun h=>⟨h,trivial⟩,fun h=>⟨h,trivial⟩,fun h=>⟨h,h,trivial⟩,fun _=>rfl,trivial⟩
 ·dsimp only[aB];rw[e];show ((wdM a:Int) != (wdM b:Int))=false;rw[hw];simp
noncomputable def c4H:Ctr:=⟨[tM,tM],[tM,tI],fun x=>okM x.1/\okM x.2.1/\(show MQ from x.1).length=(show MQ from x.2.1).length/\wdM (show MQ from x.1)=wdM (show MQ from x.2.1),fun x=>(RZ x.1 x.2.1,(0:Int),())⟩
noncomputable def c5v:Ctr:=⟨[tM,tM],[tM,tI],fun x=>okM x.1/\okM x.2.1/\(show MQ from x.1).length=(show MQ from x.2.1).length/\wdM (show MQ from x.1)=wdM (show MQ from x.2.1),fun x=>(VO x.1 x.2.1,(0:Int),())⟩
theorem a9L:aJ Tryz.prog 96 c4H:=by refine aN ((((((((nil0.an jP).an jR).an jQ).ad XM).ad a2a).an NH).an NI).an UM) ⟨[],[],[]⟩ Tryz.func96 rfl (by decide) (fun x=>[]) (fun x hp=>?_);obtain⟨a,b,u⟩:=x;change List (List Rat) at a;change List (List Rat) at b;refine aP (((okM a/\okM b/\List.length a=List.length b/\wdM a=wdM b)/\True)/\(asT Int 0<=0/\0<aB a.length/\BO TAd b6q (aB a.length,aB (List.getD a 0 (aC Rat)).length,(a,b,()),())/\True)/\(fV (fun(x:Ty.den (Ty.list (Ty.lf Lf.fO)))=>dH (fV (fun(x:Ty.den (Ty.lf Lf.fO))=>dH ((aI.ok x=true)::aC Cd)) x::aC Cd)) (aY (aB a.length).toNat (aB (List.getD a 0 (aC Rat)).length).toNat (gAd (a,b,())))/\True)/\List.map (fun(xs:Ty.den (Ty.list (Ty.lf Lf.fO)))=>List.map (fun(x:Ty.den (Ty.lf Lf.fO))=>aI.x x) xs) (aY (aB a.length).toNat (aB (List.getD a 0 (aC Rat)).length).toNat (gAd (a,b,())))=RZ a b/\True/\asT Int 0=0/\True) (by kernel_rfl) ?_;have hp':okM a/\okM b/\a.length=b.length/\wdM a=wdM b:=hp;obtain⟨ha,hb,hl,hw⟩:=hp';refine⟨⟨hp,trivial⟩,⟨Aw 0,ha.poz,⟨a.length,wdM a,rfl,rfl,by have:=ha.r64;omega,by have:=ha.c64;omega,fun i j hi hj=>?_⟩,trivial⟩,⟨wO _ _ _,trivial⟩,DF _ _ _,trivial,rfl,trivial⟩;have hj:j<wdM a:=hj;have hi:i<a.length:=hi;have h1:=ha.2 i hi j hj;have h2:=hb.2 i (by omega) j (by omega);exact⟨⟨oh i,hi,by show i<b.length;omega,oh j,by show j<(a.getD i []).length;rw[ha.row hi];exact hj,by show j<(b.getD i []).length;rw[hb.row (by omega)];omega⟩,by show rsz (ent a i j)<=_;omega,by show rsz (ent b i j)<=_;omega⟩
theorem b3Y:aJ Tryz.prog 95 c5v:=by refine aN ((((((((nil0.an jP).an jR).an jQ).ad XU).ad a2a).an NH).an NI).an UM) ⟨[],[],[]⟩ Tryz.func95 rfl (by decide) (fun x=>[]) (fun x hp=>?_);obtain⟨a,b,u⟩:=x;change List (List Rat) at a;change List (List Rat) at b;refine aP (((okM a/\okM b/\List.length a=List.length b/\wdM a=wdM b)/\True)/\(asT Int 0<=0/\0<aB a.length/\BO TSb b6x (aB a.length,aB (List.getD a 0 (aC Rat)).length,(a,b,()),())/\True)/\(fV (fun(x:Ty.den (Ty.list (Ty.lf Lf.fO)))=>dH (fV (fun(x:Ty.den (Ty.lf Lf.fO))=>dH ((aI.ok x=true)::aC Cd)) x::aC Cd)) (aY (aB a.length).toNat (aB (List.getD a 0 (aC Rat)).length).toNat (gSb (a,b,())))/\True)/\List.map (fun(xs:Ty.den (Ty.list (Ty.lf Lf.fO)))=>List.map (fun(x:Ty.den (Ty.lf Lf.fO))=>aI.x x) xs) (aY (aB a.length).toNat (aB (List.getD a 0 (aC Rat)).length).toNat (gSb (a,b,())))=VO a b/\True/\asT Int 0=0/\True) (by kernel_rfl) ?_;have hp':okM a/\okM b/\a.length=b.length/\wdM a=wdM b:=hp;obtain⟨ha,hb,hl,hw⟩:=hp';refine⟨⟨hp,trivial⟩,⟨Aw 0,ha.poz,⟨a.length,wdM a,rfl,rfl,by have:=ha.r64;omega,by have:=ha.c64;omega,fun i j hi hj=>?_⟩,trivial⟩,⟨wO _ _ _,trivial⟩,DF _ _ _,trivial,rfl,trivial⟩;have hj:j<wdM a:=hj;have hi:i<a.length:=hi;have h1:=ha.2 i hi j hj;have h2:=hb.2 i (by omega) j (by omega);exact⟨⟨oh i,hi,by show i<b.length;omega,oh j,by show j<(a.getD i []).length;rw[ha.row hi];exact hj,by show j<(b.getD i []).length;rw[hb.row (by omega)];omega⟩,by show rsz (ent a i j)<=_;omega,by show rsz (ent b i j)<=_;omega⟩
def nV (a:MQ) (k:Rat):MQ:=tab a.length (wdM a) fun i j=>k*ent a i j
noncomputable def c5s:Ctr:=⟨[tM,tQ],[tM,tI],fun x=>okM x.1/\rsz x.2.1<=400000000,fun x=>(nV x.1 x.2.1,(0:Int),())⟩
theorem a3G:aJ Tryz.prog 92 c5s:=by
 refine aN (((((((((nil0.ad RS).ad qX).an jP).an jR).an jQ).ad XV).an NH).an NI).an UM) ⟨[],[],[]⟩ Tryz.func92 rfl (by decide) (fun x=>[]) (fun x hp=>?_);obtain⟨a,k,u⟩:=x;change List (List Rat) at a;change Rat at k;refine aP (let A₀:=(List.map (fun(xs:Ty.den (Ty.list (Ty.lf Lf.rat)))=>List.map (fun(x:Ty.den (Ty.lf Lf.rat))=>dK x) xs) a);let A₂:=(List.getD a 0 (aC Rat)).length;let A₁:=(aY (aB a.length).toNat (aB A₂).toNat (gSc (k,a,())));(fV (fun(x:Ty.den (Ty.list (Ty.lf Lf.rat)))=>dH (fV (fun(x:Ty.den (Ty.lf Lf.rat))=>dH (aC Cd)) x::aC Cd)) a/\rH A₀/\True)/\ifB (nI A₀ != 0) (True/\aC (List Rat)=nV a k/\True/\nI A₀=0/\True) (((aI.n (dK k)<=1000000000/\aI.m (dK k)<=1000000000)/\True)/\(asT Int 0<=0/\0<aB a.length/\BO TSc b6y (aB a.length,aB A₂,(k,a,()),())/\True)/\(fV (fun(x:Ty.den (Ty.list (Ty.lf Lf.fO)))=>dH (fV (fun(x:Ty.den (Ty.lf Lf.fO))=>dH ((aI.ok x=true)::aC Cd)) x::aC Cd)) A₁/\True)/\List.map (fun(xs:Ty.den (Ty.list (Ty.lf Lf.fO)))=>List.map (fun(x:Ty.den (Ty.lf Lf.fO))=>aI.x x) xs) A₁=nV a k/\True/\asT Int 0=0/\True)) (by kernel_rfl) ?_;have hZ:(⟨false,0,[],[]⟩:aI)=bP:=rfl;dsimp only[aB,asT,aA,aC,Ty.den,Lf.den] at *
 simp only[hZ,Int.toNat_natCast,gZ,jc,jv,Dt,Cb,aW,nameAt,bW,gW,jG,rowAt,qp,jr];obtain⟨ha,hk⟩:okM a/\rsz k<=400000000:=hp;have hc:nI (List.map (fun xs=>List.map (fun x=>dK x) xs) a)=0:=ha.chk;have n1:=mZ k;have n2:=kK k;rw[hc];refine⟨⟨rJ a,ha.short⟩,(fun h=>by cases h),fun _=>⟨⟨au (show (dK k).n<=isz k.num from aj _) (by omega),au (show (dK k).m<=isz ((k.den:Nat):Int) from aj _) (by omega)⟩,⟨by omega,ha.poz,⟨a.length,wdM a,rfl,rfl,by have:=ha.r64;omega,by have:=ha.c64;omega,fun i j hi hj=>?_⟩⟩,wO _ _ _,DF _ _ _⟩⟩;have hj:j<wdM a:=hj;have hi:i<a.length:=hi;exact⟨⟨oh i,hi,oh j,by show j<(a.getD i []).length;rw[ha.row hi];exact hj⟩,hk,au (ha.2 i hi j hj) (by omega)⟩
set_option maxHeartbeats 4000000
def trQ (f:MQ):Rat:=ent f 0 0+(ent f 1 1+ent f 2 2)
noncomputable def c8r:Ctr:=⟨[tM],[tQ],fun x=>m33 1000000 x.1,fun x=>(trQ x.1,())⟩
theorem VX:aJ Tryz.prog 88 c8r:=by
 refine aN (nil0.ad wB) ⟨[2],[],[]⟩ Tryz.func88 rfl (by decide) (fun x=>[]) (fun x hp=>?_);obtain⟨f,u⟩:=x;change MQ at f;refine aP (let A₁:=(List.getD f 0 (aC Rat));let A₂:=(List.getD f 1 (aC Rat));let aK:=(List.getD f 2 (aC Rat));let A₀:=(List.getD A₂ 1 0+List.getD aK 2 0);(asT Int 0<=0/\0<aB f.length/\asT Int 0<=0/\0<aB A₁.length/\asT Int 0<=1/\1<aB f.length/\asT Int 0<=1/\1<aB A₂.length/\asT Int 0<=2/\2<aB f.length/\asT Int 0<=2/\2<aB aK.length/\s44 (List.getD A₂ 1 0) (List.getD aK 2 0)/\s44 (List.getD A₁ 0 0) A₀/\True)/\True/\List.getD A₁ 0 0+A₀=trQ f/\True) (by kernel_rfl) ?_;try simp only[zP0]
 try dsimp only[aB,asT,aA,aC,Ty.den,Lf.den] at *
 try simp only[zP1]
 try simp only[zP2]
 have hf:m33 1000000 f:=hp;obtain⟨l3,hr⟩:=hf.rows;have b:∀ i j,i<3->j<3->rsz ((f.getD i []).getD j 0)<=1000000:=fun i j hi hj=>(hr i hi).2 j hj;have L:∀ i,i<3->(f.getD i []).length=3:=fun i hi=>(hr i hi).1;have b0:=b 0 0 (by omega) (by omega);have b1:=b 1 1 (by omega) (by omega);have b2:=b 2 2 (by omega) (by omega);have a1:=oD ((f.getD 1 []).getD 1 0) ((f.getD 2 []).getD 2 0);rw[l3,L 0 (by omega),L 1 (by omega),L 2 (by omega)];exact⟨⟨by omega,by omega,by omega,by omega,by omega,by omega,by omega,by omega,by omega,by omega,by omega,by omega,⟨by omega,by omega⟩,by omega,by omega⟩,rfl⟩
def sV (f:Mt):Mt:=fun i j=>f ((i+1)%3) ((j+1)%3)*f ((i+2)%3) ((j+2)%3)-f ((i+1)%3) ((j+2)%3)*f ((i+2)%3) ((j+1)%3)
def WM (f:MQ):MQ:=tab 3 3 (sV (ent f))
noncomputable def c7x:Ctr:=⟨[tM],[tM],fun x=>m33 1000000 x.1,fun x=>(WM x.1,())⟩
theorem b0w:aJ Tryz.prog 93 c7x:=by
 refine aN ((nil0.ad rM).ad JR) ⟨[7,8,9,10],[],[]⟩ Tryz.func93 rfl (by decide) (fun x=>[.inv {k:Nat // k<=3} (fun i=>[(11,.val tI (i.1:Int)),(3,.own 74 0),(74,.any)]) (fun i=>[(74,.row 39 (.list tQ) (tab i.1 3 (sV (ent (show MQ from x.1)))) 0)]) (fun i=>3-i.1) ⟨0,by omega⟩ (fun i=>[
 .inv {k:Nat // k<=3} (fun j=>[(14,.val tI (j.1:Int)),(5,.own 69 0),(69,.any)]) (fun j=>[(74,.row 39 (.list tQ) (tab i.1 3 (sV (ent (show MQ from x.1)))) 0),(69,.row 47 tQ ((List.range j.1).map (sV (ent (show MQ from x.1)) i.1)) 0)]) (fun j=>3-j.1) ⟨0,by omega⟩ (fun _=>[])])]) (fun x hp=>?_)
 obtain⟨f,u⟩:=x;change MQ at f;refine aP ((asT Int 0=0/\(True/\asT (List (List Rat)) (aC (List Rat))=aC (List Rat))/\(asT (List (List Rat)) (aC (List Rat))=aC (List Rat)/\0=0/\asT Bool true=true)/\True)/\∀ (i:{ k:Nat // k<=3 }),let A₂:=(IntKind.wrap IntKind.i64 (aB (aA i)+1));let A₀:=(List.getD f (Int.tmod A₂ 3).toNat (aC Rat));let aK:=(IntKind.wrap IntKind.i64 (aB (aA i)+2));let A₁:=(List.getD f (Int.tmod aK 3).toNat (aC Rat));let aO:=(sV (ent f) (aA i));asT Bool true=true/\ifB (decide (aB (aA i)<3)) ((asT Int 0=0/\(True/\asT (List Rat) (aC Rat)=aC Rat)/\tab (aA i) 3 (sV (ent f))=tab (aA i) 3 (sV (ent f))/\(asT (List Rat) (aC Rat)=aC Rat/\0=0/\asT Bool true=true)/\True)/\∀ (i_1:{ k:Nat // k<=3 }),let bC:=(IntKind.wrap IntKind.i64 (aB (aA i_1)+1));let bI:=(IntKind.wrap IntKind.i64 (aB (aA i_1)+2));let bU:=(Int.tmod bC 3).toNat;let cZ:=(Int.tmod bI 3).toNat;let bH:=(List.getD A₀ bU 0*List.getD A₁ cZ 0-List.getD A₀ cZ 0*List.getD A₁ bU 0);let dG:=(List.range (aA i_1));asT Bool true=true/\ifB (decide (aB (aA i_1)<3)) ((asT Int 3≠0/\0<=Int.tmod A₂ 3/\Int.tmod A₂ 3<aB f.length/\asT Int 3≠0/\0<=Int.tmod bC 3/\Int.tmod bC 3<aB A₀.length/\asT Int 3≠0/\0<=Int.tmod A₂ 3/\Int.tmod A₂ 3<aB f.length/\asT Int 3≠0/\0<=Int.tmod bI 3/\Int.tmod bI 3<aB A₀.length/\asT Int 3≠0/\0<=Int.tmod aK 3/\Int.tmod aK 3<aB f.length/\asT Int 3≠0/\0<=Int.tmod bC 3/\Int.tmod bC 3<aB A₁.length/\asT Int 3≠0/\0<=Int.tmod aK 3/\Int.tmod aK 3<aB f.length/\asT Int 3≠0/\0<=Int.tmod bI 3/\Int.tmod bI 3<aB A₁.length/\True)/\(s44 (List.getD A₀ bU 0) (List.getD A₁ cZ 0)/\s44 (List.getD A₀ cZ 0) (List.getD A₁ bU 0)/\s44 (List.getD A₀ bU 0*List.getD A₁ cZ 0) (List.getD A₀ cZ 0*List.getD A₁ bU 0)/\List.length (List.map aO dG)+List.length (bH::aC Rat)<=1000000000/\True)/\∃ (i':{ k:Nat // k<=3 }),3-aA i'<3-aA i_1/\IntKind.wrap IntKind.i64 (aB (aA i_1)+1)=aB (aA i')/\tab (aA i) 3 (sV (ent f))=tab (aA i) 3 (sV (ent f))/\List.map aO dG++bH::aC Rat=List.map aO (List.range (aA i'))/\True) ((List.length (tab (aA i) 3 (sV (ent f)))+List.length (List.map aO dG::aC (List Rat))<=1000000000/\True)/\∃ (i':{ k:Nat // k<=3 }),3-aA i'<3-aA i/\IntKind.wrap IntKind.i64 (aB (aA i)+1)=aB (aA i')/\tab (aA i) 3 (sV (ent f))++List.map aO dG::aC (List Rat)=tab (aA i') 3 (sV (ent f))/\True)) (True/\tab (aA i) 3 (sV (ent f))=WM f/\True)) (by kernel_rfl) ?_;try simp only[zP0]
 try dsimp only[aB,asT,aA,aC,Ty.den,Lf.den] at *
 try simp only[zP1]
 try simp only[zP2]
 have hf:m33 1000000 f:=hp;obtain⟨l3,hr⟩:=hf.rows;have b:∀ i j,i<3->j<3->rsz ((f.getD i []).getD j 0)<=1000000:=fun i j hi hj=>(hr i hi).2 j hj;have L:∀ i,i<3->(f.getD i []).length=3:=fun i hi=>(hr i hi).1;have T1:∀ i:Nat,i<3->(IntKind.wrap .i64 ((i:Int)+1)).tmod 3=(((i+1)%3:Nat):Int):=fun i hi=>by rw[aG (by omega) (by omega),Bf (by omega)];omega
 have T2:∀ i:Nat,i<3->(IntKind.wrap .i64 ((i:Int)+2)).tmod 3=(((i+2)%3:Nat):Int):=fun i hi=>by rw[aG (by omega) (by omega),Bf (by omega)];omega
 refine fun i=>⟨fun h1 k=>⟨fun h2=>?_,fun h2=>?_⟩,fun h1=>?_⟩
 ·have hi:i.1<3:=by omega
  have hk:k.1<3:=by omega
  rw[T1 i.1 hi,T2 i.1 hi,T1 k.1 hk,T2 k.1 hk];simp only[Int.toNat_natCast];have e:sV (ent f) i.1 k.1=(f.getD ((i.1+1)%3) []).getD ((k.1+1)%3) 0*(f.getD ((i.1+2)%3) []).getD ((k.1+2)%3) 0-(f.getD ((i.1+1)%3) []).getD ((k.1+2)%3) 0*(f.getD ((i.1+2)%3) []).getD ((k.1+1)%3) 0:=rfl;rw[<-e,l3,L _ (show (i.1+1)%3<3 by omega),L _ (show (i.1+2)%3<3 by omega)];have c1:=b _ _ (show (i.1+1)%3<3 by omega) (show (k.1+1)%3<3 by omega);have c2:=b _ _ (show (i.1+2)%3<3 by omega) (show (k.1+2)%3<3 by omega);have c3:=b _ _ (show (i.1+1)%3<3 by omega) (show (k.1+2)%3<3 by omega);have c4:=b _ _ (show (i.1+2)%3<3 by omega) (show (k.1+1)%3<3 by omega);generalize (f.getD ((i.1+1)%3) []).getD ((k.1+1)%3) 0=q1 at *
  generalize (f.getD ((i.1+2)%3) []).getD ((k.1+2)%3) 0=q2 at *
  generalize (f.getD ((i.1+1)%3) []).getD ((k.1+2)%3) 0=q3 at *
  generalize (f.getD ((i.1+2)%3) []).getD ((k.1+1)%3) 0=q4 at *
  have m1:=fC q1 q2;have m2:=fC q3 q4;refine⟨by and_intros<;>omega,⟨⟨by omega,by omega⟩,⟨by omega,by omega⟩,⟨by omega,by omega⟩,by rw[ny,jr];omega⟩,⟨k.1+1,by omega⟩,by simp only;omega,by rw[aG (by omega) (by omega)];rfl,?_⟩;show _=List.map _ (List.range (k.1+1));rw[wz,Az];rfl
 ·have hk:k.1=3:=by have:=k.2;omega
  refine⟨by rw[jG];omega,⟨i.1+1,by omega⟩,by simp only;omega,by rw[aG (by omega) (by omega)];rfl,?_⟩;show _=tab (i.1+1) 3 _;unfold tab;rw[hk,wz (n:=i.1),Az];rfl
 ·rw[show i.1=3 by have:=i.2;omega];rfl
def rtQ (x:Rat):Rat:=Rat.divInt ((isq x.num.natAbs:Nat):Int) ((isq x.den:Nat):Int)
def rtB (x:Rat):Bool:=decide (((isq x.num.natAbs:Nat):Int)*((isq x.num.natAbs:Nat):Int)=x.num)&&decide (((isq x.den:Nat):Int)*((isq x.den:Nat):Int)=((x.den:Nat):Int))
def rtT (x:Rat):aI × Bool × Unit:=if rtB x=true then (dK (rtQ x),true,()) else (bP,false,())
noncomputable def c8k:Ctr:=⟨[tQ],[tR,tB],fun x=>(0:Int)<(show Rat from x.1).num/\rsz x.1<=100000,fun x=>rtT x.1⟩
theorem b7m:aJ Tryz.prog 91 c8k:=by
 refine aN (((((nil0.ad qB).ad JQ).ad JY).ad a3B).ad JQ) ⟨[2,4,6,8],[],[]⟩ Tryz.func91 rfl (by decide) (fun x=>[]) (fun x hp=>?_);obtain⟨q,u⟩:=x;change Rat at q;refine aP (let A₁:=(isq (Int.natAbs (Rat.num q)));let A₀:=(bif asT Int 0 != 0 then true else dF (aB A₁*aB A₁) (Rat.num q) != 0);let A₂:=(isq (Int.natAbs (aB (Rat.den q))));let aK:=(asT Bool true=true->asT Bool true=true/\True);let aO:=((A₀==false)=true->(A₀==false)=true/\True);((1<=Rat.num q/\isz (Rat.num q)<=400000000)/\True)/\((1<=aB (Rat.den q)/\isz (aB (Rat.den q))<=400000000)/\True)/\((asT Bool true=true->asT Bool true=true/\asT Bool true=true/\(isz (aB A₁)<=1000000000/\isz (aB A₁)<=1000000000)/\True)/\aK/\(asT Bool true=true->asT Bool true=true/\asT Bool true=true/\True/\True)/\aK/\(asT Bool (asT Int 0 != 0)=false->asT Bool true=true)/\((A₀==false)=true->(A₀==false)=true/\(A₀==false)=true/\(isz (aB A₂)<=1000000000/\isz (aB A₂)<=1000000000)/\True)/\aO/\((A₀==false)=true->(A₀==false)=true/\(A₀==false)=true/\True/\True)/\aO/\(A₀=false->(A₀==false)=true)/\True)/\ifB (bif bif asT Int 0 != 0 then true else dF (aB A₁*aB A₁) (Rat.num q) != 0 then true else dF (aB A₂*aB A₂) (aB (Rat.den q)) != 0) (True/\bP=Prod.fst (rtT q)/\True/\false=Prod.fst (rtT q).2/\True) (((isz (aB A₁)<=1000000000/\isz (aB A₂)<=1000000000)/\True)/\True/\Prod.fst (newT 14 (aB A₁) (aB A₂))=Prod.fst (rtT q)/\True/\true=Prod.fst (rtT q).2/\True)) (by kernel_rfl) ?_;try simp only[zP0]
 try dsimp only[aB,asT,aA,aC,Ty.den,Lf.den] at *
 try simp only[zP1]
 try simp only[zP2]
 obtain⟨h0,hs⟩:(0:Int)<q.num/\rsz q<=100000:=hp;have n1:=mZ q;have d1:=kK q;have hd:=q.den_nz;have iq:∀ n:Nat,isz ((isq n:Nat):Int)<=isz (n:Int):=fun n=>by
  by_cases hn:n=0
  ·rw[hn];exact aj _
  ·have h1:=(KC (show 1<=n by omega)).1;have h2:isq n<=n:=by
    by_cases h3:isq n=0
    ·omega
    ·have:=xw (isq n) (show 1<=isq n by omega);omega
   exact BJ (by simpa using h2)
 have en:(((q.den:Nat):Int)).natAbs=q.den:=rfl;have a1:=iq q.num.natAbs;have a2:=iq q.den;have a3:isz ((q.num.natAbs:Nat):Int)=isz q.num:=by unfold isz;rw[Int.natAbs_natCast]
 rw[en];have c0:∀ x y:Int,dF x y=0↔x=y:=fun x y=>by unfold dF;split<;>(try split)<;>omega
 simp only[c0];refine⟨⟨by omega,by omega⟩,⟨by omega,by omega⟩,⟨fun _=>by omega,fun h=>⟨h,h,by omega⟩⟩,fun h=>?_,fun h=>⟨⟨by omega,by omega⟩,?_,?_⟩⟩
 ·have hb:rtB q=false:=by
   unfold rtB;rcases h with(h|h)|h
   ·exact absurd trivial h
   ·rw[iy h];rfl
   ·rw[iy h,Bool.and_false]
  unfold rtT;rw[hb];exact⟨rfl,rfl⟩
 ·have hb:rtB q=true:=by unfold rtB;rw[jg h.1,jg h.2];rfl
  have hz:((isq q.den:Nat):Int)≠0:=fun e=>by have h2:=h.2;rw[e] at h2;omega
  rw[show newT 14 ((isq q.num.natAbs:Nat):Int) ((isq q.den:Nat):Int)=(dK (rtQ q),0,()) from bn hz];unfold rtT;rw[hb];rfl
 ·have hb:rtB q=true:=by unfold rtB;rw[jg h.1,jg h.2];rfl
  unfold rtT;rw[hb];rfl
noncomputable def c7y:Ctr:=⟨[.list tZ],[tM],fun x=>(show List Int from x.1).length=3/\∀ n ∈ (show List Int from x.1),isz n<=1000000,fun x=>(kW ((show List Int from x.1).map fun n=>aH n),())⟩
theorem b4X:aJ Tryz.prog 94 c7y:=by
 refine aN (((nil0.ad oG).ad JO).ad VE) ⟨[3,4,5,6],[],[]⟩ Tryz.func94 rfl (by decide) (fun x=>[]) (fun x hp=>?_);obtain⟨l,u⟩:=x;change List Int at l;refine aP ((asT Int 0<=0/\0<aB l.length/\isz (List.getD l 0 0)<=390000000/\asT Int 0<=1/\1<aB l.length/\isz (List.getD l 1 0)<=390000000/\asT Int 0<=2/\2<aB l.length/\isz (List.getD l 2 0)<=390000000/\True)/\(aV 0/\True)/\(s4 (aH (List.getD l 2 0))/\s4 (aH (List.getD l 0 0))/\s4 (aH (List.getD l 1 0))/\True)/\True/\(aH 0::-aH (List.getD l 2 0)::aH (List.getD l 1 0)::aC Rat)::(aH (List.getD l 2 0)::aH 0::-aH (List.getD l 0 0)::aC Rat)::(-aH (List.getD l 1 0)::aH (List.getD l 0 0)::aH 0::aC Rat)::aC (List Rat)=kW (List.map (fun(n:Int)=>aH n) l)/\True) (by kernel_rfl) ?_;try simp only[zP0]
 try dsimp only[aB,asT,aA,aC,Ty.den,Lf.den] at *
 try simp only[zP1]
 try simp only[zP2]
 obtain⟨h3,hs⟩:l.length=3/\∀ n ∈ l,isz n<=1000000:=hp;have z:∀ i,i<3->isz (l.getD i 0)<=1000000:=fun i hi=>cO hs (by omega);have z0:=z 0 (by omega);have z1:=z 1 (by omega);have z2:=z 2 (by omega);refine⟨⟨by omega,by omega,by omega,by omega,by omega,by omega,by omega,by omega,by omega⟩,⟨by omega,by omega⟩,⟨au (wM _) (by omega),au (wM _) (by omega),au (wM _) (by omega)⟩,?_⟩;obtain⟨a,b,c,rfl⟩:=VQ h3;rfl
def qN (a b c d:Int):Int:=a*a+b*b+c*c+d*d
def qM (a b c d:Int):Nat->Nat->Int
 | 0=>fun|0=>a*a+b*b-c*c-d*d|1=>2*(b*c-a*d)|_=>2*(b*d+a*c)
 | 1=>fun|0=>2*(b*c+a*d)|1=>a*a-b*b+c*c-d*d|_=>2*(c*d-a*b)
 | _=>fun|0=>2*(b*d-a*c)|1=>2*(c*d+a*b)|_=>a*a-b*b-c*c+d*d
def qR (a b c d:Int):Mt:=fun i j=>Rat.divInt (qM a b c d i j) (qN a b c d)
theorem three {i:Nat} (h:i<3):i=0\/i=1\/i=2:=by omega
theorem lW {a b c d:Int} (h:¬ (a=0/\b=0/\c=0/\d=0)):0<qN a b c d:=by
 have s:∀ x:Int,0<=x*x:=fun x=>by
  rcases Int.le_total 0 x with h|h
  ·exact Int.mul_nonneg h h
  ·exact Int.mul_nonneg_of_nonpos_of_nonpos h h
 have p:∀ x:Int,x≠0->0<x*x:=fun x hx=>by
  rcases Int.lt_or_gt_of_ne hx with h|h
  ·exact Int.mul_pos_of_neg_of_neg h h
  ·exact Int.mul_pos h h
 unfold qN;have:=s a;have:=s b;have:=s c;have:=s d;by_cases ha:a=0
 ·by_cases hb:b=0
  ·by_cases hc:c=0
   ·have:=p d (fun e=>h ⟨ha,hb,hc,e⟩);omega
   ·have:=p c hc;omega
  ·have:=p b hb;omega
 ·have:=p a ha;omega
theorem b6U (a b c d:Int) {i j:Nat} (hi:i<3) (hj:j<3):qM a b c d i 0*qM a b c d j 0+qM a b c d i 1*qM a b c d j 1+qM a b c d i 2*qM a b c d j 2=if i=j then qN a b c d*qN a b c d else 0:=by rcases three hi with rfl|rfl|rfl<;>rcases three hj with rfl|rfl|rfl<;>simp only[qM,qN]<;>grind
theorem b2Z (a b c d:Int) {i j:Nat} (hi:i<3) (hj:j<3):qM a b c d 0 i*qM a b c d 0 j+qM a b c d 1 i*qM a b c d 1 j+qM a b c d 2 i*qM a b c d 2 j=if i=j then qN a b c d*qN a b c d else 0:=by rcases three hi with rfl|rfl|rfl<;>rcases three hj with rfl|rfl|rfl<;>simp only[qM,qN]<;>grind
theorem a6Z {n x0 x1 x2 y0 y1 y2 e:Int} (h:n≠0) {t:Rat} (h1:x0*y0+x1*y1+x2*y2=e) (he:(e:Rat)=t*((n:Rat)*(n:Rat))):Rat.divInt x0 n*Rat.divInt y0 n+Rat.divInt x1 n*Rat.divInt y1 n+Rat.divInt x2 n*Rat.divInt y2 n=t:=by
 have hn:(n:Rat)≠0:=fun e=>h (Dq.1 e);have hi:=jw _ hn;have h2:(x0:Rat)*y0+x1*y1+x2*y2=e:=by rw[<-h1];simp only[Rat.intCast_add,uw]
 simp only[zu,Rat.div_def];generalize (n:Rat)⁻¹=m at *
 generalize (n:Rat)=k at *
 grind
theorem sm3 (f:Nat->Rat):sm 3 f=f 0+f 1+f 2:=by show 0+f 0+f 1+f 2=_;rw[Rat.zero_add]
theorem a7n {a b c d:Int} (h:qN a b c d≠0) {i j:Nat} (hi:i<3) (hj:j<3):sm 3 (fun k=>qR a b c d i k*qR a b c d j k)=idm i j:=by
 rw[sm3];refine a6Z h (b6U a b c d hi hj) ?_;unfold idm;split
 ·rw[Rat.one_mul,uw]
 ·rw[Bd];rfl
theorem b3c {a b c d:Int} (h:qN a b c d≠0) {i j:Nat} (hi:i<3) (hj:j<3):sm 3 (fun k=>qR a b c d k i*qR a b c d k j)=idm i j:=by
 rw[sm3];refine a6Z h (b2Z a b c d hi hj) ?_;unfold idm;split
 ·rw[Rat.one_mul,uw]
 ·rw[Bd];rfl
end Go.Proofs.YtbkocjmmbkifjaaGreat
