/-
  Lemmas for the theorem vstations28_holds, part 25 of 34.
-/
import Derived.Test.YtbkocjmmbkifjaaGreatQs24
namespace Go.Proofs.YtbkocjmmbkifjaaGreat
open Go Go.RowKit
set_option maxRecDepth 100000
set_option maxHeartbeats 1000000
set_option linter.unusedVariables false
set_option linter.unusedSimpArgs false
theorem UN {f:Nat->Rat} {K:Nat}:∀ n,(∀ i,i<n->rsz (f i)<=K)->rsz (sm n f)<=n*(K+1)+1
 | 0,_=>by show rsz 0<=_;rw[show rsz 0=1 by decide +kernel];omega
 | n+1,h=>by
  have h1:=UN n (fun i hi=>h i (by omega))
  have h2:=h n (by omega)
  have h3:=PU (sm n f) (f n)
  show rsz (sm n f+f n)<=_
  rw[Aa];omega
def pV (x y:LQ') (k:Nat):Rat:=sm k fun i=>lv x i*lv y i
def a3A (x y:LQ'):Prop:=x.length=y.length/\x.length<=64/\∀ i,i<x.length->rsz (lv x i)<=1000000/\rsz (lv y i)<=1000000
theorem a9s {x y:LQ'} (h:a3A x y) {k:Nat} (hk:k<=x.length):rsz (pV x y k)<=200000000:=by
 have h1:=UN (K:=2000000) (f:=fun i=>lv x i*lv y i) k (fun i hi=>by
  have ⟨a,b⟩:=h.2.2 i (by omega)
  have:=lS (lv x i) (lv y i);show rsz (lv x i*lv y i)<=_;omega)
 have h2:=h.2.1
 have:k*(2000000+1)<=64*2000001:=xq (by omega) (by omega)
 show rsz (sm k _)<=_
 omega
theorem nR {x:Rat}:sgn x.num=0↔x=0:=⟨fun h=>Rat.num_eq_zero.mp (Em.1 h),fun h=>by rw[h];rfl⟩
noncomputable def c1N:Ctr:=⟨[.list tQ,.list tQ],[tQ],fun x=>a3A x.1 x.2.1,fun x=>(pV x.1 x.2.1 (show LQ' from x.1).length,())⟩
theorem a9r:aI Tryz.prog 233 c1N:=by
 refine kS ((((nil0.ad DK).ad a0n).ad OI).ad OL) [4,5,7] Tryz.func233 rfl (by decide) (fun x=>[.inv {k:Nat // k<=(show LQ' from x.1).length} (fun k=>[(11,.val tI (k.1:Int))]) (fun k=>[(4,.box [⟨tR,bF⟩]),(5,.box [⟨tQ,pV x.1 x.2.1 k.1⟩])]) (fun k=>(show LQ' from x.1).length-k.1) ⟨0,by omega⟩ (fun _=>[])]) (fun x hp=>?_)
 obtain⟨x,y,u⟩:=x
 change List Rat at x
 change List Rat at y
 refine aU ((aX 0/\True)/\(asT Int 0=0/\asT aH { ok:=false,x:=0,g:=aF Nat,h:=aF Nat }=bF/\aO 0=pV x y 0/\True)/\∀ (i:{ k:Nat // k<=List.length x }),let A₁:=(aB (aA i)).toNat;let A₂:=(Rat.num (List.getD x A₁ 0));let A₀:=((sgn A₂ != 0)==true);let aJ:=(A₀=true->A₀=true/\True);asT Bool true=true/\ifB (decide (aB (aA i)<aB x.length)) ((0<=aB (aA i)/\aB (aA i)<aB x.length/\True)/\(rsz (List.getD x A₁ 0)<=1000000000/\(A₀=true->A₀=true/\A₀=true/\0<=aB (aA i)/\aB (aA i)<aB y.length/\True)/\aJ/\(A₀=true->A₀=true/\rsz (List.getD y A₁ 0)<=1000000000/\True)/\aJ/\((sgn A₂ != 0)=true->A₀=true)/\True)/\ifB (bif sgn A₂ != 0 then sgn (Rat.num (List.getD y A₁ 0)) != 0 else false) ((0<=aB (aA i)/\aB (aA i)<aB y.length/\s44 (List.getD x A₁ 0) (List.getD y A₁ 0)/\s44 (pV x y (aA i)) (List.getD x A₁ 0*List.getD y A₁ 0)/\True)/\∃ (i':{ k:Nat // k<=List.length x }),List.length x-aA i'<List.length x-aA i/\IntKind.wrap IntKind.i64 (aB (aA i)+1)=aB (aA i')/\asT aH bF=bF/\pV x y (aA i)+List.getD x A₁ 0*List.getD y A₁ 0=pV x y (aA i')/\True) (∃ (i':{ k:Nat // k<=List.length x }),List.length x-aA i'<List.length x-aA i/\IntKind.wrap IntKind.i64 (aB (aA i)+1)=aB (aA i')/\asT aH bF=bF/\pV x y (aA i)=pV x y (aA i')/\True)) (True/\pV x y (aA i)=pV x y x.length/\True)) (by kernel_rfl) ?_
 have hp:a3A x y:=hp
 have hZ:(⟨false,0,[],[]⟩:aH)=bF:=rfl
 dsimp only[aB,asT,aA,aF] at *
 simp only[hZ,Int.toNat_natCast,aC,aj,ah,jh,jg]
 have hs:=fun k (hk:k<=x.length)=>a9s hp hk
 obtain⟨hl,h64,hr⟩:=hp
 refine⟨by unfold aX;omega,rfl,fun i=>⟨fun h1=>?_,fun h1=>?_⟩⟩
 ·have hi:i.1<x.length:=by omega
  have a1:rsz (x.getD i.1 0)<=1000000:=(hr i.1 hi).1
  have a2:rsz (y.getD i.1 0)<=1000000:=(hr i.1 hi).2
  have a3:=hs i.1 i.2
  have a4:=lS (x.getD i.1 0) (y.getD i.1 0)
  refine⟨⟨by omega,h1⟩,⟨by omega,fun h=>⟨h,h,by omega,by omega⟩,fun h=>h,fun h=>⟨h,by omega⟩,fun h=>h,fun h=>by rw[h];rfl⟩,fun h=>⟨⟨by omega,by omega,⟨by omega,by omega⟩,by omega,by omega⟩,⟨i.1+1,by omega⟩,by simp only;omega,by rw[aP (by omega) (by omega)];rfl,rfl⟩,fun h=>⟨⟨i.1+1,by omega⟩,by simp only;omega,by rw[aP (by omega) (by omega)];rfl,?_⟩⟩
  have hz:x.getD i.1 0*y.getD i.1 0=0:=by
   by_cases hx:sgn (x.getD i.1 0).num=0
   ·have h9:x.getD i.1 0=0:=nR.mp hx
    rw[h9];grind
   ·rw[show (sgn (x.getD i.1 0).num != 0)=true from jy.mpr hx] at h
    have h:(sgn (y.getD i.1 0).num != 0)=false:=h
    have h9:y.getD i.1 0=0:=nR.mp (by simpa using h)
    rw[h9];grind
  show sm i.1 _=sm i.1 _+x.getD i.1 0*y.getD i.1 0
  rw[hz];grind
 ·have:i.1=x.length:=by have:=i.2;omega
  rw[this]
abbrev TCo:List Ty:=[.ref tM]
def b7L (c:(nest TCo).den) (i j:Int):Prop:=0<=i/\i.toNat<(show MQ from c.1).length/\0<=j/\j.toNat<((show MQ from c.1).getD i.toNat []).length
def gCo (c:(nest TCo).den) (i j:Nat):Rat:=ent c.1 i j
theorem a7g:aI Tryz.prog 276 (a3s TCo b7L gCo):=by
 refine kS nil0 [5] Tryz.func276 rfl (by decide) (fun x=>[]) (fun x hp=>?_)
 obtain⟨i,j,c⟩:=x
 change Int at i
 change Int at j
 obtain⟨a,u⟩:=c
 change List (List Rat) at a
 refine aU ((0<=i/\i<aB a.length/\0<=j/\j<aB (List.getD a i.toNat (aF Rat)).length/\True)/\True/\List.getD (List.getD a i.toNat (aF Rat)) j.toNat 0=ent a i.toNat j.toNat/\True) (by kernel_rfl) ?_
 try dsimp only[aB,asT,aA,aF] at *
 have h1:0<=i/\i.toNat<a.length/\0<=j/\j.toNat<(a.getD i.toNat []).length:=hp
 exact⟨⟨h1.1,by omega,h1.2.2.1,by omega,trivial⟩,trivial,rfl,trivial⟩
abbrev TTu:List Ty:=[.ref tM]
def b4F (c:(nest TTu).den) (i j:Int):Prop:=0<=i/\0<=j/\j.toNat<(show MQ from c.1).length/\i.toNat<((show MQ from c.1).getD j.toNat []).length
def gTu (c:(nest TTu).den) (i j:Nat):Rat:=ent c.1 j i
theorem WV:aI Tryz.prog 273 (a3s TTu b4F gTu):=by
 refine kS nil0 [5] Tryz.func273 rfl (by decide) (fun x=>[]) (fun x hp=>?_)
 obtain⟨i,j,c⟩:=x
 change Int at i
 change Int at j
 obtain⟨a,u⟩:=c
 change List (List Rat) at a
 refine aU ((0<=j/\j<aB a.length/\0<=i/\i<aB (List.getD a j.toNat (aF Rat)).length/\True)/\True/\List.getD (List.getD a j.toNat (aF Rat)) i.toNat 0=ent a j.toNat i.toNat/\True) (by kernel_rfl) ?_
 try dsimp only[aB,asT,aA,aF] at *
 have h1:0<=i/\0<=j/\j.toNat<a.length/\i.toNat<(a.getD j.toNat []).length:=hp
 exact⟨⟨h1.2.1,by omega,h1.1,by omega,trivial⟩,trivial,rfl,trivial⟩
abbrev TMu:List Ty:=[.ref tM,.ref tM]
def b4D (c:(nest TMu).den) (i j:Int):Prop:=0<=i/\i.toNat<(show MQ from c.1).length/\0<=j/\j.toNat<(show MQ from c.2.1).length/\a3A ((show MQ from c.1).getD i.toNat []) ((show MQ from c.2.1).getD j.toNat [])
def gMu (c:(nest TMu).den) (i j:Nat):Rat:=pV ((show MQ from c.1).getD i []) ((show MQ from c.2.1).getD j []) ((show MQ from c.1).getD i []).length
theorem WT:aI Tryz.prog 232 (a3s TMu b4D gMu):=by
 refine kS (nil0.ad a9r) [6] Tryz.func232 rfl (by decide) (fun x=>[]) (fun x hp=>?_)
 obtain⟨i,j,c⟩:=x
 change Int at i
 change Int at j
 obtain⟨a,b,u⟩:=c
 change List (List Rat) at a
 change List (List Rat) at b
 refine aU ((0<=i/\i<aB a.length/\0<=j/\j<aB b.length/\a3A (List.getD a i.toNat (aF Rat)) (List.getD b j.toNat (aF Rat))/\True)/\True/\pV (List.getD a i.toNat (aF Rat)) (List.getD b j.toNat (aF Rat)) (List.getD a i.toNat (aF Rat)).length=gMu (a,b,u) i.toNat j.toNat/\True) (by kernel_rfl) ?_
 try dsimp only[aB,asT,aA,aF] at *
 have h1:0<=i/\i.toNat<a.length/\0<=j/\j.toNat<b.length/\a3A (a.getD i.toNat []) (b.getD j.toNat []):=hp
 exact⟨⟨h1.1,by omega,h1.2.2.1,by omega,h1.2.2.2.2,trivial⟩,trivial,rfl,trivial⟩
theorem tJ:NOk Tryz.prog 184 (TN 276 TCo b7L gCo):=by
 refine tY (nil0.ad a7g) ⟨[],[],[(11,tR)]⟩ Tryz.func184 rfl (by decide) (fun x=>xI x.1 x.2.1 (gCo x.2.2.1)) (fun x hp=>?_)
 obtain⟨m,n,c,u⟩:=x
 obtain⟨R,C,hR,hC,r2,c2,hP⟩:=hp
 change m=(R:Int) at hR
 change n=(C:Int) at hC
 subst hR hC
 refine aU (xJ R C (gCo c) (b7L c) (fun y=>bG R C (gCo c)=y)) (by kernel_rfl) ?_
 exact qA r2 c2 hP rfl
theorem tN:NOk Tryz.prog 184 (TN 273 TTu b4F gTu):=by
 refine tY (nil0.ad WV) ⟨[],[],[(11,tR)]⟩ Tryz.func184 rfl (by decide) (fun x=>xI x.1 x.2.1 (gTu x.2.2.1)) (fun x hp=>?_)
 obtain⟨m,n,c,u⟩:=x
 obtain⟨R,C,hR,hC,r2,c2,hP⟩:=hp
 change m=(R:Int) at hR
 change n=(C:Int) at hC
 subst hR hC
 refine aU (xJ R C (gTu c) (b4F c) (fun y=>bG R C (gTu c)=y)) (by kernel_rfl) ?_
 exact qA r2 c2 hP rfl
theorem tK:NOk Tryz.prog 184 (TN 232 TMu b4D gMu):=by
 refine tY (nil0.ad WT) ⟨[],[],[(11,tR)]⟩ Tryz.func184 rfl (by decide) (fun x=>xI x.1 x.2.1 (gMu x.2.2.1)) (fun x hp=>?_)
 obtain⟨m,n,c,u⟩:=x
 obtain⟨R,C,hR,hC,r2,c2,hP⟩:=hp
 change m=(R:Int) at hR
 change n=(C:Int) at hC
 subst hR hC
 refine aU (xJ R C (gMu c) (b4D c) (fun y=>bG R C (gMu c)=y)) (by kernel_rfl) ?_
 exact qA r2 c2 hP rfl
theorem b3a (x:List Rat):kM (fun(x:Ty.den (Ty.lf Lf.rat))=>dJ []) x:=sN.mpr fun _ _=>trivial
theorem FW (a:MQ):kM (fun(x:Ty.den (Ty.list (Ty.lf Lf.rat)))=>dJ [kM (fun(x:Ty.den (Ty.lf Lf.rat))=>dJ []) x]) a:=sN.mpr fun r _=>⟨b3a r,trivial⟩
theorem ifF {b:Bool} {p q:Prop} (h:b=false) (hq:q):ifB b p q:=by subst h;exact hq
theorem ifT {b:Bool} {p q:Prop} (h:b=true) (hp:p):ifB b p q:=by subst h;exact hp
theorem a3S {x:Int} (h:x=0):(x != 0)=false:=by rw[h];rfl
theorem b3i {l:ML} (h:∀ a ∈ l,rU a=0):VK l=0:=by
 unfold VK
 rw[show l.any (fun a=>rU a != 0)=false from List.any_eq_false.mpr fun a ha=>by rw[h a ha];decide];rfl
theorem okM.pos {a:MQ} (h:okM a):0<a.length:=by have:=h.1.2.2.1;omega
theorem okM.poz {a:MQ} (h:okM a):(0:Int)<(a.length:Int):=by have:=h.pos;omega
theorem okM.r64 {a:MQ} (h:okM a):a.length<=64:=h.1.2.2.2.1
theorem okM.c1 {a:MQ} (h:okM a):1<=wdM a:=h.1.2.2.2.2.1
theorem okM.c64 {a:MQ} (h:okM a):wdM a<=64:=h.1.2.2.2.2.2
theorem okM.row {a:MQ} (h:okM a) {i:Nat} (hi:i<a.length):(a.getD i []).length=wdM a:=h.1.row hi
noncomputable def b3f:Ctr:=⟨[tM],[tM],fun x=>okM x.1,fun x=>(tab (wdM (show MQ from x.1)) (show MQ from x.1).length (tr (ent x.1)),())⟩
theorem UY:aI Tryz.prog 231 b3f:=by
 refine aK ((((nil0.ad WV).an tJ).an tN).an tK) ⟨[],[],[]⟩ Tryz.func231 rfl (by decide) (fun x=>[]) (fun x hp=>?_)
 obtain⟨a,u⟩:=x
 change List (List Rat) at a
 refine aU ((asT Int 0<=0/\0<aB a.length/\TB TTu b4F (aB (List.getD a 0 (aF Rat)).length,aB a.length,(a,()),())/\True)/\(kM (fun(x:Ty.den (Ty.list (Ty.lf Lf.iL)))=>dJ (kM (fun(x:Ty.den (Ty.lf Lf.iL))=>dJ ((aH.ok x=true)::aF Cd)) x::aF Cd)) (bG (aB (List.getD a 0 (aF Rat)).length).toNat (aB a.length).toNat (gTu (a,())))/\True)/\List.map (fun(xs:Ty.den (Ty.list (Ty.lf Lf.iL)))=>List.map (fun(x:Ty.den (Ty.lf Lf.iL))=>aH.x x) xs) (bG (aB (List.getD a 0 (aF Rat)).length).toNat (aB a.length).toNat (gTu (a,())))=tab (wdM a) a.length (tr (ent a))/\True) (by kernel_rfl) ?_
 have ha:okM a:=hp
 exact⟨⟨Dh 0,ha.poz,⟨wdM a,a.length,rfl,rfl,by have:=ha.c64;omega,by have:=ha.r64;omega,fun i j hi hj=>⟨yc i,yc j,hj,by show i<(a.getD j []).length;rw[ha.row hj];exact hi⟩⟩,trivial⟩,⟨JX _ _ _,trivial⟩,UO _ _ _,trivial⟩
def sqC (a:MQ):Int:=if a.length=wdM a then 0 else 4
noncomputable def b3d:Ctr:=⟨[tM],[tI],fun x=>okM x.1,fun x=>(sqC x.1,())⟩
theorem a4x:aI Tryz.prog 234 b3d:=by
 refine aK (nil0.ad FC) ⟨[],[],[]⟩ Tryz.func234 rfl (by decide) (fun x=>[]) (fun x hp=>?_)
 obtain⟨a,u⟩:=x
 change List (List Rat) at a
 refine aU (let A₀:=(List.map (fun(xs:Ty.den (Ty.list (Ty.lf Lf.rat)))=>List.map (fun(x:Ty.den (Ty.lf Lf.rat))=>eU x) xs) a);(kM (fun(x:Ty.den (Ty.list (Ty.lf Lf.rat)))=>dJ (kM (fun(x:Ty.den (Ty.lf Lf.rat))=>dJ (aF Cd)) x::aF Cd)) a/\xZ A₀/\True)/\ifB (rU A₀ != 0) (True/\rU A₀=sqC a/\True) ((asT Int 0<=0/\0<aB a.length/\True)/\ifB (aB a.length != aB (List.getD a 0 (aF Rat)).length) (True/\4=sqC a/\True) (True/\0=sqC a/\True))) (by kernel_rfl) ?_
 have ha:okM a:=hp
 dsimp only[aB,asT,aA,aF] at *
 refine⟨⟨FW a,ha.short,trivial⟩,ifF (a3S ha.chk) ⟨⟨Dh 0,ha.poz,trivial⟩,?_⟩⟩
 by_cases h:a.length=wdM a
 ·exact ifF (by rw[a5x,jf.mpr h];rfl) ⟨trivial,(jm h).symm,trivial⟩
 ·exact ifT (by rw[a5x,dn.mpr h];rfl) ⟨trivial,(ji h).symm,trivial⟩
noncomputable def b3e:Ctr:=⟨[tM],[tM,tI],fun x=>okM x.1,fun x=>(tab (wdM (show MQ from x.1)) (show MQ from x.1).length (tr (ent x.1)),(0:Int),())⟩
theorem a4C:aI Tryz.prog 153 b3e:=by
 refine aK ((nil0.ad FC).ad UY) ⟨[],[],[]⟩ Tryz.func153 rfl (by decide) (fun x=>[]) (fun x hp=>?_)
 obtain⟨a,u⟩:=x
 change List (List Rat) at a
 refine aU (let A₀:=(List.map (fun(xs:Ty.den (Ty.list (Ty.lf Lf.rat)))=>List.map (fun(x:Ty.den (Ty.lf Lf.rat))=>eU x) xs) a);(kM (fun(x:Ty.den (Ty.list (Ty.lf Lf.rat)))=>dJ (kM (fun(x:Ty.den (Ty.lf Lf.rat))=>dJ (aF Cd)) x::aF Cd)) a/\xZ A₀/\True)/\ifB (rU A₀ != 0) (True/\aF (List Rat)=tab (wdM a) a.length (tr (ent a))/\True/\rU A₀=0/\True) ((okM a/\True)/\True/\tab (wdM a) a.length (tr (ent a))=tab (wdM a) a.length (tr (ent a))/\True/\asT Int 0=0/\True)) (by kernel_rfl) ?_
 have ha:okM a:=hp
 exact⟨⟨FW a,ha.short,trivial⟩,ifF (a3S ha.chk) ⟨⟨ha,trivial⟩,trivial,rfl,trivial,rfl,trivial⟩⟩
noncomputable def cMul:Ctr:=⟨[tM,tM],[tM,tI],fun x=>okM x.1/\okM x.2.1/\wdM (show MQ from x.1)=(show MQ from x.2.1).length/\szM x.1 1000000/\szM x.2.1 1000000,fun x=>(tab (show MQ from x.1).length (wdM (show MQ from x.2.1)) (mm (show MQ from x.2.1).length (ent x.1) (ent x.2.1)),(0:Int),())⟩
theorem b4j:aI Tryz.prog 152 cMul:=by
 refine aK ((((((nil0.ad a2w).ad WT).an tJ).an tN).an tK).ad UY) ⟨[7],[],[]⟩ Tryz.func152 rfl (by decide) (fun x=>[]) (fun x hp=>?_)
 obtain⟨a,b,u⟩:=x
 change List (List Rat) at a
 change List (List Rat) at b
 refine aU (let aJ:=(a::b::aF (List (List Rat)));let aT:=(mm b.length (ent a) (ent b));let bV:=(a,tab (wdM b) b.length (tr (ent b)),());let dH:=(Ty.list (Ty.lf Lf.rat));let A₀:=(fun(xs:Ty.den (Ty.list dH))=>List.map (fun(xs:Ty.den dH)=>List.map (fun(x:Ty.den (Ty.lf Lf.rat))=>eU x) xs) xs);let A₂:=(fun(x:Ty.den dH)=>dJ (kM (fun(x:Ty.den (Ty.lf Lf.rat))=>dJ (aF Cd)) x::aF Cd));let dD:=(List.getD b 0 (aF Rat)).length;let A₁:=(bG (aB a.length).toNat (aB dD).toNat (gMu bV));(((kM A₂ a/\True)/\(kM A₂ b/\True)/\True)/\(List.length (List.map A₀ aJ)<=1000000/\∀ (a_1:List (List aH)),a_1 ∈ List.map A₀ aJ->xZ a_1)/\True)/\ifB (VK (List.map A₀ aJ) != 0) (True/\aF (List Rat)=tab a.length (wdM b) aT/\True/\VK (List.map A₀ aJ)=0/\True) ((asT Int 0<=0/\0<aB a.length/\True)/\ifB (aB (List.getD a 0 (aF Rat)).length != aB b.length) (True/\aF (List Rat)=tab a.length (wdM b) aT/\True/\asT Int 4=0/\True) ((okM b/\True)/\(asT Int 0<=0/\0<aB b.length/\TB TMu b4D (aB a.length,aB dD,bV,())/\True)/\(kM (fun(x:Ty.den (Ty.list (Ty.lf Lf.iL)))=>dJ (kM (fun(x:Ty.den (Ty.lf Lf.iL))=>dJ ((aH.ok x=true)::aF Cd)) x::aF Cd)) A₁/\True)/\List.map (fun(xs:Ty.den (Ty.list (Ty.lf Lf.iL)))=>List.map (fun(x:Ty.den (Ty.lf Lf.iL))=>aH.x x) xs) A₁=tab a.length (wdM b) aT/\True/\asT Int 0=0/\True))) (by kernel_rfl) ?_
 have hp:okM a/\okM b/\wdM a=b.length/\szM a 1000000/\szM b 1000000:=hp
 obtain⟨ha,hb,hw,sa,sb⟩:=hp
 have hk:VK [liftM a,liftM b]=0:=b3i fun m hm=>by
  rcases qh.mp hm with rfl|hm
  ·exact ha.chk
  ·rw[tq.mp hm];exact hb.chk
 have hs:∀ m ∈ [liftM a,liftM b],xZ m:=fun m hm=>by
  rcases qh.mp hm with rfl|hm
  ·exact ha.short
  ·rw[tq.mp hm];exact hb.short
 have hrow:∀ j,j<wdM b->(tab (wdM b) b.length (tr (ent b))).getD j []=(List.range b.length).map (fun k=>ent b k j):=fun j hj=>gU hj
 have hd:∀ i,i<a.length->∀ j,j<wdM b->a3A (a.getD i []) ((tab (wdM b) b.length (tr (ent b))).getD j []):=fun i hi j hj=>by
  rw[hrow j hj]
  have hl:=ha.row hi
  refine⟨by rw[hl,hw];simp,by rw[hl];exact ha.c64,fun k hk=>?_⟩
  rw[hl] at hk
  refine⟨sa i hi k hk,?_⟩
  show rsz (((List.range b.length).map (fun k=>ent b k j)).getD k 0)<=_
  rw[fM (by omega)];exact sb k (by omega) j hj
 refine⟨⟨⟨⟨FW a,trivial⟩,⟨FW b,trivial⟩,trivial⟩,⟨by show 2<=1000000;omega,hs⟩,trivial⟩,ifF (a3S hk) ⟨⟨Dh 0,ha.poz,trivial⟩,ifF (by dsimp only[aB];rw[a5x,jf.mpr hw];rfl) ⟨⟨hb,trivial⟩,⟨Dh 0,hb.poz,⟨a.length,wdM b,rfl,rfl,by have:=ha.r64;omega,by have:=hb.c64;omega,fun i j hi hj=>⟨yc i,hi,yc j,by show j<(tab _ _ _).length;rw[eY];exact hj,hd i hi j hj⟩⟩,trivial⟩,⟨JX _ _ _,trivial⟩,(UO _ _ _).trans (eF fun i hi j hj=>?_),trivial,rfl,trivial⟩⟩⟩
 have hj:j<wdM b:=hj
 have hi:i<a.length:=hi
 show sm (a.getD i []).length (fun k=>lv (a.getD i []) k*lv ((tab (wdM b) b.length (tr (ent b))).getD j []) k)=sm b.length (fun k=>ent a i k*ent b k j)
 rw[ha.row hi,hw,hrow j hj]
 refine dQ _ fun k hk=>?_
 show ent a i k*((List.range b.length).map (fun k=>ent b k j)).getD k 0=_
 rw[fM hk]
noncomputable def c2f:Ctr:=⟨[tQ,tQ],[tQ],fun x=>rsz x.1<=400000000/\rsz x.2.1<=400000000/\(show Rat from x.2.1)≠0,fun x=>((show Rat from x.1) / (show Rat from x.2.1),())⟩
theorem b1E:aI Tryz.prog 246 c2f:=by
 refine aK (nil0.ad a5m) ⟨[4,5],[],[]⟩ Tryz.func246 rfl (by decide) (fun x=>[]) (fun x hp=>?_)
 obtain⟨a,b,u⟩:=x
 change Rat at a
 change Rat at b
 refine aU (((rsz a<=400000000/\rsz b<=400000000)/\True)/\(aH.ok (VP 14 a b).1=true/\True)/\aH.x (VP 14 a b).1=a / b/\True) (by kernel_rfl) ?_
 have hp:rsz a<=400000000/\rsz b<=400000000/\b≠0:=hp
 have e:VP 14 a b=(eU (a / b),(0:Int),()):=ji hp.2.2
 rw[e]
 exact⟨⟨⟨hp.1,hp.2.1⟩,trivial⟩,⟨rfl,trivial⟩,rfl,trivial⟩
def pI (x:LR) (o:LQ') (k:Rat) (s t:Nat):LR:=(List.range x.length).map fun c=>if s<=c/\c<t then eU ((x.getD c bF).x-k*lv o c) else x.getD c bF
theorem b2x (x:LR) (o:LQ') (k:Rat) (s t:Nat):(pI x o k s t).length=x.length:=by simp[pI]
theorem b5v {x:LR} {o:LQ'} {k:Rat} {s t c:Nat} (h:c<x.length):(pI x o k s t).getD c bF=if s<=c/\c<t then eU ((x.getD c bF).x-k*lv o c) else x.getD c bF:=fM h
theorem b7W (x:LR):(List.range x.length).map (fun c=>x.getD c bF)=x:=by
 apply Dj
 ·simp
 ·intro i h1 h2;simp[iy,h2]
theorem a8f (x:LR) (o:LQ') (k:Rat) (s:Nat):pI x o k s s=x:=by
 unfold pI
 rw[show (fun c=>if s<=c/\c<s then eU ((x.getD c bF).x-k*lv o c) else x.getD c bF)=(fun c=>x.getD c bF) from funext fun c=>ji (by omega)]
 exact b7W x
theorem b2z {x:LR} {o:LQ'} {k:Rat} {s t:Nat} (h:s<=t):(pI x o k s t).set t (eU ((x.getD t bF).x-k*lv o t))=pI x o k s (t+1):=by
 unfold pI;rw[map_set]
 refine qj fun c _=>?_
 by_cases e:c=t
 ·subst e;rw[jm rfl,jm ⟨h,by omega⟩]
 ·rw[ji e]
  by_cases h2:s<=c/\c<t
  ·rw[jm h2,jm ⟨h2.1,by omega⟩]
  ·rw[ji h2,ji (by omega)]
theorem a8e {x:LR} {o:LQ'} {k:Rat} {s t:Nat} (hx:∀ q ∈ x,q=eU q.x) (h:lv o t=0):pI x o k s (t+1)=pI x o k s t:=by
 unfold pI
 refine qj fun c hc=>?_
 by_cases h2:s<=c/\c<t
 ·rw[jm h2,jm ⟨h2.1,by omega⟩]
 ·rw[ji h2]
  split
  ·have e:c=t:=by omega
   subst e
   have h3:x.getD c bF=eU (x.getD c bF).x:=bU hx (vw.mp hc)
   rw[h,show (x.getD c bF).x-k*0=(x.getD c bF).x by grind,<-h3]
  ·rfl
theorem b2w {x:LR} {o:LQ'} {k:Rat} {s t:Nat} (h:x.length<=t):pI x o k s t=pI x o k s x.length:=by
 unfold pI
 refine qj fun c hc=>?_
 have:=vw.mp hc
 by_cases h2:s<=c
 ·rw[jm ⟨h2,by omega⟩,jm ⟨h2,by omega⟩]
 ·rw[ji (by omega),ji (by omega)]
noncomputable def c5g:jZ:=.chg (.row 47 tR) [.list tQ,tQ,tI] [] (fun x y=>(∀ q ∈ (show LR from x),q=eU q.x)/\(show LR from x).length=(show LQ' from y.1).length/\(show LR from x).length<=1000/\0<=(show Int from y.2.2.1)/\(∀ q ∈ (show LR from x),rsz q.x<=400000000)/\rsz y.2.1<=100000000/\∀ q ∈ (show LQ' from y.1),rsz q<=100000000) (fun x y=>pI x y.1 y.2.1 (show Int from y.2.2.1).toNat (show LR from x).length) (fun _ _=>())
theorem c3y:NOk Tryz.prog 245 c5g:=by
 refine a5L (((nil0.ad OI).ad a5s).ad OL) ⟨[],[],[]⟩ Tryz.func245 rfl (by decide) (fun x y=>[.inv {k:Nat // (show Int from y.2.2.1).toNat<=k} (fun k=>[(8,.val tI (k.1:Int))]) (fun k=>[(0,.row 47 tR (pI x y.1 y.2.1 (show Int from y.2.2.1).toNat k.1) 0)]) (fun k=>(show LR from x).length-k.1) ⟨(show Int from y.2.2.1).toNat,ay _⟩ (fun _=>[])]) (fun x y hp=>?_)
 obtain⟨o,k,s,u⟩:=y
 change List aH at x
 change List Rat at o
 change Rat at k
 change Int at s
 refine aU ((s=aB s.toNat/\x=pI x o k s.toNat s.toNat/\True)/\∀ (i:{ k:Nat // Int.toNat s<=k }),let A₀:=(pI x o k s.toNat (aA i));let A₁:=(aB (aA i)).toNat;let A₂:=(List.getD A₀ A₁ { ok:=false,x:=0,g:=aF Nat,h:=aF Nat });asT Bool true=true/\ifB (decide (aB (aA i)<aB A₀.length)) ((0<=aB (aA i)/\aB (aA i)<aB o.length/\rsz (List.getD o A₁ 0)<=1000000000/\True)/\ifB (sgn (Rat.num (List.getD o A₁ 0)) != 0) ((0<=aB (aA i)/\aB (aA i)<aB A₀.length/\Int.toNat (aB (aA i))<List.length A₀/\0<=aB (aA i)/\aB (aA i)<aB o.length/\s44 k (List.getD o A₁ 0)/\aH.ok A₂=true/\s44 (aH.x A₂) (k*List.getD o A₁ 0)/\0<=aB (aA i)/\aB (aA i)<aB A₀.length/\Int.toNat (aB (aA i))<List.length A₀/\True)/\∃ (i':{ k:Nat // Int.toNat s<=k }),List.length x-aA i'<List.length x-aA i/\IntKind.wrap IntKind.i64 (aB (aA i)+1)=aB (aA i')/\List.set A₀ A₁ (eU (aH.x A₂-k*List.getD o A₁ 0))=pI x o k s.toNat (aA i')/\True) (∃ (i':{ k:Nat // Int.toNat s<=k }),List.length x-aA i'<List.length x-aA i/\IntKind.wrap IntKind.i64 (aB (aA i)+1)=aB (aA i')/\pI x o k s.toNat (aA i)=pI x o k s.toNat (aA i')/\True)) (pI x o k s.toNat x.length=pI x o k s.toNat (aA i))) (by kernel_rfl) ?_
 have hp:(∀ q ∈ x,q=eU q.x)/\x.length=o.length/\x.length<=1000/\0<=s/\(∀ q ∈ x,rsz q.x<=400000000)/\rsz k<=100000000/\∀ q ∈ o,rsz q<=100000000:=hp
 obtain⟨hq,hl,hm,hs,zx,zk,zo⟩:=hp
 have hZ:(⟨false,0,[],[]⟩:aH)=bF:=rfl
 dsimp only[aB,asT,aA,aF] at *
 simp only[hZ,Int.toNat_natCast,aC,aj,ah,jh,jg,b2x]
 refine⟨⟨by omega,(a8f _ _ _ _).symm⟩,fun i=>⟨fun h1=>?_,fun h1=>?_⟩⟩
 ·have hi:i.1<x.length:=by omega
  have z1:rsz (o.getD i.1 0)<=100000000:=bU zo (by omega)
  have z2:rsz (x.getD i.1 bF).x<=400000000:=bU (p:=fun q:aH=>rsz q.x<=400000000) zx hi
  have z3:=lS k (o.getD i.1 0)
  have e1:(pI x o k s.toNat i.1).getD i.1 bF=x.getD i.1 bF:=by rw[b5v hi,ji (by omega)]
  have e2:x.getD i.1 bF=eU (x.getD i.1 bF).x:=bU hq hi
  rw[e1]
  refine⟨⟨by omega,by omega,by omega⟩,fun h2=>⟨⟨by omega,by omega,hi,by omega,by omega,⟨by omega,by omega⟩,by rw[e2];rfl,⟨by omega,by omega⟩,by omega,by omega,hi⟩,⟨i.1+1,by have:=i.2;omega⟩,by simp only;omega,by rw[aP (by omega) (by omega)];rfl,b2z i.2⟩,fun h2=>⟨⟨i.1+1,by have:=i.2;omega⟩,by simp only;omega,by rw[aP (by omega) (by omega)];rfl,?_⟩⟩
  have h9:lv o i.1=0:=nR.mp (by simpa using h2)
  exact(a8e hq h9).symm
 ·exact(b2w (by omega)).symm
def scl (m:Mt) (r j c:Nat) (v:Rat):Mt:=fun i d=>if i=r/\j<=d/\d<c then v*m i d else m i d
def elm (m:Mt) (r j t:Nat):Mt:=fun i d=>if i≠r/\i<t/\j<=d then m i d-m i j*m r d else m i d
theorem b2h (m:Mt) (r j:Nat) (v:Rat):scl m r j j v=m:=by
 funext i d;unfold scl;rw[ji (by omega)]
theorem b2g (m:Mt) {r j c:Nat} (h:j<=c) (v:Rat):scl m r j (c+1) v=fun i d=>if i=r then (fun e=>if e=c then v*m r c else scl m r j c v r e) d else scl m r j c v i d:=by
 funext i d
 unfold scl
 by_cases h1:i=r
 ·subst h1;simp only[Dl,jh]
  by_cases h2:d=c
  ·subst h2;rw[jm ⟨h,by omega⟩,jm rfl]
  ·rw[ji h2]
   by_cases h3:j<=d/\d<c
   ·rw[jm h3,jm ⟨h3.1,by omega⟩]
   ·rw[ji h3,ji (by omega)]
 ·simp only[ji h1];rw[ji (by simp[h1]),ji (by simp[h1])]
theorem c0Z (m:Mt) {r j c:Nat} (v:Rat) {d:Nat} (h:c<=d) (i:Nat):scl m r j c v i d=m i d:=by unfold scl;rw[ji (by omega)]
theorem a9y (m:Mt) (r j:Nat):elm m r j 0=m:=by
 funext i d;unfold elm;rw[ji (by omega)]
theorem a1G (m:Mt) (r j t d:Nat):elm m r j t r d=m r d:=by unfold elm;rw[ji (by simp)]
theorem b6R (m:Mt) {r j t i:Nat} (h:t<=i) (d:Nat):elm m r j t i d=m i d:=by unfold elm;rw[ji (by omega)]
theorem a9x (m:Mt) {r j t:Nat} (h:t≠r):elm m r j (t+1)=fun i d=>if i=t then (fun e=>if j<=e then m t e-m t j*m r e else m t e) d else elm m r j t i d:=by
 funext i d
 unfold elm
 by_cases h1:i=t
 ·subst h1;simp only[Dl]
  by_cases h2:j<=d
  ·rw[jm ⟨h,by omega,h2⟩,jm h2]
  ·rw[ji (by omega),ji h2]
 ·simp only[ji h1]
  by_cases h2:i≠r/\i<t/\j<=d
  ·rw[jm h2,jm ⟨h2.1,by omega,h2.2.2⟩]
  ·rw[ji h2,ji (by omega)]
theorem a9w (m:Mt) {r j t:Nat} (h:t=r\/m t j=0):elm m r j (t+1)=elm m r j t:=by
 funext i d
 unfold elm
 by_cases h1:i=t
 ·subst h1
  rw[ji (c:=i≠r/\i<i/\j<=d) (by omega)]
  rcases h with h|h
  ·rw[ji (by simp[h])]
  ·split
   ·rw[h];grind
   ·rfl
 ·by_cases h2:i≠r/\i<t/\j<=d
  ·rw[jm h2,jm ⟨h2.1,by omega,h2.2.2⟩]
  ·rw[ji h2,ji (by omega)]
theorem b5u {m:Mt} {R C r k j:Nat} (hz:m k j≠0) (hr:r<=k) (hk:k<R) (h0:∀ i,r<=i->i<R->∀ d,d<j->m i d=0) :
  ∀ i,i<R->∀ d,d<C->elm (scl (gB m r k) r j C (1 / m k j)) r j R i d=jC m r k j i d:=by
 intro i hi d hd
 have hs:∀ e,gB m r k r e=m k e:=fun e=>by unfold gB;rw[jm rfl]
 have hv:m k j*(m k j)⁻¹=1:=Bq _ hz
 have hrow:∀ e,e<C->scl (gB m r k) r j C (1 / m k j) r e=m k e / m k j:=fun e he=>by
  unfold scl
  by_cases h:j<=e
  ·rw[jm ⟨rfl,h,he⟩,hs,Rat.div_def,Rat.div_def];grind
  ·rw[ji (by omega),hs,h0 k hr hk e (by omega),Rat.div_def];grind
 by_cases e1:i=r
 ·subst e1
  rw[a1G,hrow d hd];unfold jC;rw[jm rfl]
 ·have hoth:∀ e,scl (gB m r k) r j C (1 / m k j) i e=gB m r k i e:=fun e=>by unfold scl;rw[ji (by simp[e1])]
  unfold jC;rw[ji e1]
  unfold elm
  by_cases h:j<=d
  ·rw[jm ⟨e1,hi,h⟩,hoth,hoth,hrow d hd]
  ·rw[ji (by omega),hoth,h0 k hr hk d (by omega),Rat.div_def];grind
theorem b2u {m:Mt} {R C r k j:Nat} :
  ∀ i,i<R->∀ d,d<C->(if i=r then gB m r k r d / m k j else gB m r k i d-gB m r k i j*(gB m r k r d / m k j))=jC m r k j i d:=by
 intro i _ d _
 have hs:∀ e,gB m r k r e=m k e:=fun e=>by unfold gB;rw[jm rfl]
 unfold jC
 rw[hs]
def uD (R C:Nat) (e:Mt) (n:Nat):Prop:=∀ t,t<=n->∀ i,i<R->∀ c,c<C->rsz ((red R e t).1 i c)<=10000000
theorem a5U {R C n K:Nat} {e:Mt} (H:Cdn e R C K) (hn:n<=C) (hK:2 ^ n*(K+1)<=10000000):uD R C e n:=fun t ht i hi c hc=>by
 have h1:=(H.red t (by omega)).rsz hi hc
 have h2:2 ^ t*(K+1)<=2 ^ n*(K+1):=xq (xu (by omega) ht) (ay _)
 omega
theorem uD.at {R C n:Nat} {e:Mt} (h:uD R C e n) {i c:Nat} (hi:i<R) (hc:c<C):rsz (e i c)<=10000000:=h 0 (by omega) i hi c hc
theorem uD.mono {R C n m:Nat} {e:Mt} (h:uD R C e n) (hm:m<=n):uD R C e m:=fun t ht=>h t (by omega)
theorem a2L {R:Nat} {e:Mt} {n k:Nat} (hk:fk (red R e n).1 n (red R e n).2.length (R-(red R e n).2.length)=k) (hkR:k≠R):red R e (n+1)=(jC (red R e n).1 (red R e n).2.length k n,(red R e n).2++[n]):=by
 subst hk;exact ji hkR
theorem a2K {R:Nat} {e:Mt} {n:Nat} (hk:fk (red R e n).1 n (red R e n).2.length (R-(red R e n).2.length)=R):red R e (n+1)=red R e n:=jm hk
def b5f (a:MQ) (n:Nat):Mt × List Nat:=red a.length (ent a) n
def mulM (a b:MQ):MQ:=tab a.length (wdM b) (mm b.length (ent a) (ent b))
def trM (a:MQ):MQ:=tab (wdM a) a.length (tr (ent a))
def b2Z (a b:MQ):MQ:=tab a.length (wdM a) (ma (ent a) (ent b))
def b5w (a b:MQ):MQ:=tab a.length (wdM a) (ms (ent a) (ent b))
def idM (n:Nat):MQ:=tab n n idm
def uP (a b:MQ):MQ:=tab a.length (wdM a+wdM b) (fD (wdM a) (ent a) (ent b))
def EX (a:MQ):Mt × List Nat:=red a.length (fD a.length (ent a) idm) a.length
def DZ (a:MQ):Bool:=decide ((EX a).2.length=a.length)
def kD (a:MQ):MQ:=tab a.length a.length fun i j=>(EX a).1 i (a.length+j)
def mvL (a:MQ) (x:List Rat):List Rat:=(List.range a.length).map (mv (wdM a) (ent a) (lv x))
instance c5q (N:Nat) (p:Nat->Prop) [DecidablePred p]:Decidable (∀ i,i<N->p i):=Nat.decidableBallLT N (fun i _=>p i)
def CdM (a:MQ) (K:Nat):Prop:=Cdn (ent a) a.length (wdM a) K
theorem isM.len {a:MQ} {R C:Nat} (h:isM a R C):a.length=R:=h.1
theorem isM.self {a:MQ} {R C:Nat} (h:isM a R C):isM a a.length (wdM a):=by rw[h.len,h.wd];exact h
theorem c1g {R C:Nat} {f:Nat->Nat->Rat} (h:1<=R):wdM (tab R C f)=C:=by
 show ((tab R C f).getD 0 []).length=C;rw[gU (by omega)];simp
theorem BH {R C K:Nat} {f:Mt} (h:1<=R) (H:Cdn f R C K):CdM (tab R C f) K:=by
 unfold CdM;rw[eY,c1g h];exact H.congr fun i hi j hj=>jQ hi hj
theorem CdM.sz {a:MQ} {K L:Nat} (H:CdM a K) (h:K<=L):szM a L:=fun i hi j hj=>iq (Cdn.rsz H hi hj) h
theorem CdM.ok {a:MQ} {R C K:Nat} (H:CdM a K) (h:isM a R C) (hK:K<=100000000):okM a:=⟨h.self,H.sz hK⟩
theorem isM.mul {a b:MQ} {R C D n:Nat} (h:isM a R C) (g:isM b n D):isM (mulM a b) R D:=by
 unfold mulM;rw[h.len,g.wd];exact qK h.2.2.1 h.2.2.2.1 g.2.2.2.2.1 g.2.2.2.2.2
theorem isM.trp {a:MQ} {R C:Nat} (h:isM a R C):isM (trM a) C R:=by
 unfold trM;rw[h.len,h.wd];exact qK h.2.2.2.2.1 h.2.2.2.2.2 h.2.2.1 h.2.2.2.1
theorem isM.add {a b:MQ} {R C:Nat} (h:isM a R C):isM (b2Z a b) R C:=by
 unfold b2Z;rw[h.len,h.wd];exact qK h.2.2.1 h.2.2.2.1 h.2.2.2.2.1 h.2.2.2.2.2
theorem isM.sub {a b:MQ} {R C:Nat} (h:isM a R C):isM (b5w a b) R C:=by
 unfold b5w;rw[h.len,h.wd];exact qK h.2.2.1 h.2.2.2.1 h.2.2.2.2.1 h.2.2.2.2.2
theorem b0u {n:Nat} (h:1<=n) (h2:n<=64):isM (idM n) n n:=qK h h2 h h2
theorem isM.inv {a:MQ} {n C:Nat} (h:isM a n C):isM (kD a) n n:=by
 unfold kD;rw[h.len];exact qK h.2.2.1 h.2.2.2.1 h.2.2.1 h.2.2.2.1
theorem CdM.mul {a b:MQ} {R n C K L:Nat} (H:CdM a K) (G:CdM b L) (h:isM a R n) (g:isM b n C):CdM (mulM a b) (K+L+n):=by
 unfold mulM;rw[h.len,g.len,g.wd]
 refine BH h.2.2.1 (Cdn.mm ?_ ?_)
 ·have:=H;unfold CdM at this;rwa [h.len,h.wd] at this
 ·have:=G;unfold CdM at this;rwa [g.len,g.wd] at this
theorem CdM.trp {a:MQ} {R C K:Nat} (H:CdM a K) (h:isM a R C):CdM (trM a) K:=by
 unfold trM;rw[h.len,h.wd]
 refine BH h.2.2.2.2.1 (Cdn.tr ?_)
 have:=H;unfold CdM at this;rwa [h.len,h.wd] at this
theorem CdM.add {a b:MQ} {R C K L:Nat} (H:CdM a K) (G:CdM b L) (h:isM a R C) (g:isM b R C):CdM (b2Z a b) (K+L+1):=by
 unfold b2Z;rw[h.len,h.wd]
 refine BH h.2.2.1 (Cdn.add ?_ ?_)
 ·have:=H;unfold CdM at this;rwa [h.len,h.wd] at this
 ·have:=G;unfold CdM at this;rwa [g.len,g.wd] at this
theorem CdM.sub {a b:MQ} {R C K L:Nat} (H:CdM a K) (G:CdM b L) (h:isM a R C) (g:isM b R C):CdM (b5w a b) (K+L+1):=by
 unfold b5w;rw[h.len,h.wd]
 refine BH h.2.2.1 (Cdn.sub ?_ ?_)
 ·have:=H;unfold CdM at this;rwa [h.len,h.wd] at this
 ·have:=G;unfold CdM at this;rwa [g.len,g.wd] at this
theorem a8p {n:Nat} (h:1<=n):CdM (idM n) 1:=BH h (Cdn.idm n n)
theorem CdM.EX {a:MQ} {n K:Nat} (H:CdM a K) (h:isM a n n):Cdn (fD n (ent a) idm) n (n+n) (K+1):=by
 have:=H;unfold CdM at this;rw[h.len,h.wd] at this
 exact Cdn.bes this (Cdn.idm n n)
theorem CdM.inv {a:MQ} {n K:Nat} (H:CdM a K) (h:isM a n n):CdM (kD a) (2 ^ n*(K+2)-1):=by
 unfold kD Proofs.YtbkocjmmbkifjaaGreat.EX;rw[h.len]
 refine BH h.2.2.1 ?_
 have H2:=Cdn.red (H.EX h) n (by omega)
 obtain⟨D,d1,d2,d3⟩:=H2
 exact⟨D,d1,d2,fun i hi j hj=>d3 i hi (n+j) (by omega)⟩
def okE (a:MQ):Prop:=okM a/\uD a.length (wdM a) (ent a) (wdM a)
theorem BI {R C:Nat} {f:Nat->Nat->Rat} {i j:Nat} (v:Rat) (hi:i<R):(tab R C f).set i (((tab R C f).getD i []).set j v)=tab R C (fun a b=>if a=i/\b=j then v else f a b):=by
 rw[gU hi,map_set]
 unfold tab;rw[map_set]
 refine qj fun k _=>?_
 by_cases e:k=i
 ·subst e;rw[jm rfl]
  refine qj fun d _=>?_
  show _=if k=k/\d=j then v else f k d
  by_cases e2:d=j
  ·rw[jm e2,jm ⟨rfl,e2⟩]
  ·rw[ji e2,ji (fun h=>e2 h.2)]
 ·rw[ji e]
  refine qj fun d _=>?_
  show _=if k=i/\d=j then v else f k d
  rw[ji (fun h=>e h.1)]
def a0l (a:MQ):MQ:=tab a.length (wdM a) (b5f a (wdM a)).1
def a4e (a:MQ):List Nat:=(b5f a (wdM a)).2
def cZ (l:List Nat):List Int:=l.map fun p:Nat=>(p:Int)
theorem zO (l:List Nat):(cZ l).length=l.length:=by simp[cZ]
theorem PW (R r k:Nat):((List.range R).set r k).set k r=(List.range R).map (fun i=>if i=k then r else if i=r then k else i):=by
 have h:=map_set (fun i=>i) R r k
 rw[List.map_id'] at h
 rw[h,map_set]
theorem b2B {R C r k:Nat} {m:Mt} (hr:r<R) (hk:k<R):List.map (fun t=>(tab R C m).getD t []) (((List.range R).set r k).set k r)=tab R C (gB m r k):=by
 rw[PW,List.map_map]
 unfold tab
 refine qj fun i hi=>?_
 have hi:=vw.mp hi
 show (tab R C m).getD (if i=k then r else if i=r then k else i) []=_
 have hb:(if i=k then r else if i=r then k else i)<R:=by
  split
  ·exact hr
  ·split
   ·exact hk
   ·exact hi
 rw[gU hb]
 refine qj fun c _=>?_
 unfold gB
 by_cases e1:i=k
 ·by_cases e2:i=r
  ·rw[jm e1,jm e2];have:r=k:=by omega
   rw[this]
  ·rw[jm e1,ji e2,jm e1]
 ·by_cases e2:i=r
  ·rw[ji e1,jm e2,jm e2]
  ·rw[ji e1,ji e2,ji e2,ji e1]
theorem b2C (R:Nat) {r k:Nat} (hr:r<R) (hk:k<R):(((List.range R).set r k).set k r).Nodup:=by
 rw[PW]
 refine List.nodup_iff_pairwise_ne.mpr (List.pairwise_iff_getElem.mpr fun i j hi hj h=>?_)
 simp only[List.getElem_map,List.getElem_range]
 split<;>split<;>(try split)<;>(try split)<;>omega
theorem swp_get {R r k:Nat} (hr:r<R):(((List.range R).set r k).set k r).getD r 0=k:=by
 rw[PW,fM hr]
 by_cases e:r=k
 ·rw[jm e];exact e
 ·rw[ji e,jm rfl]
theorem TF {n:Nat} {a a' b b':Mt} {i j:Nat} (h1:∀ k,k<n->a i k=a' i k) (h2:∀ k,k<n->b k j=b' k j):mm n a b i j=mm n a' b' i j:=dQ n fun k hk=>by rw[h1 k hk,h2 k hk]
theorem Gau.congr {N f:Nat} {n g n' g':Mt} (H:Gau N f n g) (h1:∀ i,i<N->∀ j,j<N->n' i j=n i j) (h2:∀ i,i<N->∀ j,j<f->g' i j=g i j):Gau N f n' g' :=
 ⟨fun i hi j hj=>by rw[h1 i hi j hj,h1 j hj i hi];exact H.sym i hi j hj,fun i hi j hj=>by rw[<-H.ng i hi j hj];exact TF (fun k hk=>h1 i hi k hk) (fun k hk=>h2 k hk j hj),
  by rw[(wL (C:=f) h2 f (ay _)).1];exact H.rank,by rw[(wL (C:=N) h1 N (ay _)).1];exact H.dim⟩
theorem sK.congr {n:Nat} {a x a' x':Mt} (H:sK n a x) (h1:∀ i,i<n->∀ j,j<n->a' i j=a i j) (h2:∀ i,i<n->∀ j,j<n->x' i j=x i j):sK n a' x' :=
 ⟨fun i hi j hj=>by rw[<-H.r i hi j hj];exact TF (fun k hk=>h1 i hi k hk) (fun k hk=>h2 k hk j hj),fun i hi j hj=>by rw[<-H.l i hi j hj];exact TF (fun k hk=>h2 i hi k hk) (fun k hk=>h1 k hk j hj)⟩
theorem a0H (a:MQ) (x:List Rat):(mvL a x).length=a.length:=by simp[mvL]
theorem c3j {a:MQ} {R C:Nat} (h:isM a R C) {x:List Rat} {i:Nat} (hi:i<R):lv (mvL a x) i=mv C (ent a) (lv x) i:=by
 unfold mvL;rw[h.len,h.wd];exact fM hi
theorem b1e {a:MQ} {R C K L:Nat} (h:isM a R C) (ha:szM a K) {x:LQ'} (hx:∀ q ∈ x,rsz q<=L) (hl:x.length=C):∀ q ∈ mvL a x,rsz q<=C*(K+L+1)+1:=fun q hq=>by
 obtain⟨i,hi,rfl⟩:=Df hq
 have hi2:i<R:=by rw[a0H,h.len] at hi;exact hi
 have e:(mvL a x)[i]=mv C (ent a) (lv x) i:=by
  rw[<-c3j h hi2];unfold lv;rw[iy,jc hi];rfl
 rw[e]
 exact UN (K:=K+L) (f:=fun k=>ent a i k*lv x k) C (fun k hk=>by
  have y1:rsz (ent a i k)<=K:=ha i (by rw[h.len];exact hi2) k (by rw[h.wd];exact hk)
  have y2:rsz (lv x k)<=L:=hx _ (by unfold lv;rw[iy,jc (by omega)];exact vk _)
  have y3:=lS (ent a i k) (lv x k)
  show rsz (ent a i k*lv x k)<=_
  omega)
def cdI (n:Int):Prop:=-1048576<=n/\n<=1048576
abbrev c1p:Type:=Int × Int × Unit
def cdP (p:c1p):Prop:=cdI p.1/\cdI p.2.1
def m33 (K:Nat) (f:MQ):Prop:=isM f 3 3/\szM f K
theorem m33.mono {K L:Nat} {f:MQ} (h:m33 K f) (hl:K<=L):m33 L f:=⟨h.1,fun i hi j hj=>iq (h.2 i hi j hj) hl⟩
theorem cdI.word {n:Int} (h:cdI n):aX n:=⟨by have:=h.1;omega,by have:=h.2;omega⟩
theorem cdI.sz {n:Int} (h:cdI n):rsz (aO n)<=2:=by
 have h1:=oP n
 have h2:isz n<=1:=vU (by obtain⟨a,b⟩:=h;unfold BB;omega)
 exact iq h1 (by omega)
theorem m33.ok {K:Nat} {f:MQ} (h:m33 K f) (hK:K<=1000000):okM f/\szM f 1000000/\wdM f=3/\f.length=3:=⟨⟨by rw[h.1.len,h.1.wd];exact h.1,fun i hi j hj=>iq (h.2 i hi j hj) (by omega)⟩,fun i hi j hj=>iq (h.2 i hi j hj) (by omega),h.1.wd,h.1.len⟩
theorem m33.tr {K:Nat} {f:MQ} (h:m33 K f):m33 K (trM f):=by
 unfold trM
 rw[h.1.wd,h.1.len]
 have e:isM (tab 3 3 (_root_.Go.Proofs.YtbkocjmmbkifjaaGreat.tr (ent f))) 3 3:=qK (by omega) (by omega) (by omega) (by omega)
 refine⟨e,fun i hi j hj=>?_⟩
 rw[e.len] at hi
 rw[e.wd] at hj
 rw[jQ hi hj]
 exact h.2 j (by rw[h.1.len];exact hj) i (by rw[h.1.wd];exact hi)
def szL (l:LQ'):Prop:=l.length<=1000/\∀ q ∈ l,rsz q<=100000000
theorem XF {α:Type} {xs:List α} {i:Nat} {d:α} (hi:i<xs.length):xs.getD i d ∈ xs:=by
 rw[iy,jc hi];exact vk hi
theorem UQ {α:Type} {xs ys:List α} {i:Nat} {d:α} (hi:i<xs.length) (hy:i<ys.length) (h:xs.take i=ys.take i) (h2:xs.getD i d=ys.getD i d):xs.take (i+1)=ys.take (i+1):=by
 rw[Ai,Ai,h]
 rw[iy,jc hi,iy,jc hy] at h2
 rw[jc hi,jc hy]
 have h2:xs[i]=ys[i]:=h2
 rw[h2]
noncomputable def c2h:Ctr:=⟨[.list tQ,.list tQ],[tB],fun x=>szL x.1/\szL x.2.1,fun x=>(decide ((show LQ' from x.1)=(show LQ' from x.2.1)),())⟩
def JW (a:MQ):Prop:=a.length<=1000/\∀ r ∈ a,szL r
noncomputable def c4w:Ctr:=⟨[tM,tM],[tB],fun x=>JW x.1/\JW x.2.1,fun x=>(decide ((show MQ from x.1)=(show MQ from x.2.1)),())⟩
abbrev LKq:LK:=.mat 39 47 tQ
def a8o (n:Nat):List Rat:=List.replicate n 0
def BQ (R C:Nat):MQ:=tab R C fun _ _=>0
noncomputable def c5h:jZ:=.mk LKq [tI,tI] (fun x=>0<=(show Int from x.1)/\(show Int from x.1)<=1000/\0<=(show Int from x.2.1)/\(show Int from x.2.1)<=1000) (fun x=>BQ (show Int from x.1).toNat (show Int from x.2.1).toNat)
noncomputable def c5e:jZ:=.mk LKq [tI] (fun x=>0<=(show Int from x.1)/\(show Int from x.1)<=1000) (fun x=>idM (show Int from x.1).toNat)
def a2f (n k:Nat):MQ:=tab n n fun i j=>if i=j/\i<k then 1 else 0
noncomputable def c3k:jZ:=.mk LKq [tM] (fun x=>(show MQ from x.1).length<=1000/\∀ r ∈ (show MQ from x.1),r.length<=1000) (fun x=>x.1)
theorem BF:aI Tryz.prog 165 (cIQ aX (fun i=>(i:Rat))):=by
 refine aK (nil0.ad JO) ⟨[2],[],[]⟩ Tryz.func165 rfl (by decide) (fun x=>[]) (fun x hp=>?_)
 obtain⟨n,u⟩:=x
 change Int at n
 refine aU ((aX n/\True)/\True/\aO n=aO n/\True) (by kernel_rfl) ?_
 have hZ:(⟨false,0,[],[]⟩:aH)=bF:=rfl
 dsimp only[aB,asT,aA,aF,Ty.den,Lf.den] at *
 simp only[hZ,Int.toNat_natCast,aC,aj,ah,jh,jg,aN,nameAt,bJ,eX,eY,rowAt,gy,bf]
 exact hp
theorem a0Z:NOk Tryz.prog 158 c5h:=by
 refine tY (nil0.ad BF) ⟨[],[],[(9,tQ),(27,tQ)]⟩ Tryz.func158 rfl (by decide) (fun x=>[.inv {k:Nat // k<=(show Int from x.1).toNat} (fun k=>[(6,.val tI (k.1:Int)),(5,.own 9 0),(9,.any),(28,.any)]) (fun k=>[(9,.mat 39 47 tQ none (BQ k.1 (show Int from x.2.1).toNat) 0)]) (fun k=>(show Int from x.1).toNat-k.1) ⟨0,by omega⟩ (fun k=>[.inv {q:Nat // q<=(show Int from x.2.1).toNat} (fun q=>[(8,.val tI (q.1:Int)),(7,.own 15 0),(15,.any),(24,.any)]) (fun q=>[(9,.mat 39 47 tQ none (BQ k.1 (show Int from x.2.1).toNat) 0),(15,.row 47 tQ (a8o q.1) 0)]) (fun q=>(show Int from x.2.1).toNat-q.1) ⟨0,by omega⟩ (fun _=>[])])]) (fun x hp=>?_)
 obtain⟨m,n,u⟩:=x
 change Int at m
 change Int at n
 refine aU ((asT Int 0=0/\asT (List (List Rat)) (aF (List Rat))=aF (List Rat)/\True)/\∀ (i:{ k:Nat // k<=Int.toNat m }),asT Bool true=true/\ifB (decide (aB (aA i)<m)) ((asT Int 0=0/\BQ (aA i) n.toNat=BQ (aA i) n.toNat/\asT (List Rat) (aF Rat)=aF Rat/\True)/\∀ (i_1:{ q:Nat // q<=Int.toNat n }),asT Bool true=true/\ifB (decide (aB (aA i_1)<n)) ((aX 0/\List.length (a8o (aA i_1))+List.length (aO 0::aF Rat)<=1000000000/\True)/\∃ (i':{ q:Nat // q<=Int.toNat n }),Int.toNat n-aA i'<Int.toNat n-aA i_1/\IntKind.wrap IntKind.i64 (aB (aA i_1)+1)=aB (aA i')/\BQ (aA i) n.toNat=BQ (aA i) n.toNat/\a8o (aA i_1)++aO 0::aF Rat=a8o (aA i')/\True) ((aN none (BQ (aA i) n.toNat)+1<=1000000000/\True)/\∃ (i':{ k:Nat // k<=Int.toNat m }),Int.toNat m-aA i'<Int.toNat m-aA i/\IntKind.wrap IntKind.i64 (aB (aA i)+1)=aB (aA i')/\BQ (aA i) n.toNat++a8o (aA i_1)::aF (List Rat)=BQ (aA i') n.toNat/\True)) (BQ m.toNat n.toNat=BQ (aA i) n.toNat)) (by kernel_rfl) ?_
 have hZ:(⟨false,0,[],[]⟩:aH)=bF:=rfl
 dsimp only[aB,asT,aA,aF,Ty.den,Lf.den] at *
 simp only[hZ,Int.toNat_natCast,aC,aj,ah,jh,jg,aN,nameAt,bJ,eX,eY,rowAt,gy,bf]
 have hp:0<=m/\m<=1000/\0<=n/\n<=1000:=hp
 obtain⟨m0,m1,n0,n1⟩:=hp
 refine fun i=>⟨fun h1 q=>⟨fun h2=>⟨⟨by unfold aX;omega,by simp[a8o];have:=q.2;omega⟩,⟨q.1+1,by omega⟩,by simp only;omega,by rw[aP (by omega) (by omega)];rfl,?_⟩,fun h2=>⟨by show (BQ _ _).length+1<=_;unfold BQ;rw[eY];have:=i.2;omega,⟨i.1+1,by omega⟩,by simp only;omega,by rw[aP (by omega) (by omega)];rfl,?_⟩⟩,fun h1=>?_⟩
 ·show List.replicate q.1 0++[((0:Int):Rat)]=List.replicate (q.1+1) 0
  rw[List.replicate_succ'];rfl
 ·have hq:q.1=n.toNat:=by have:=q.2;omega
  rw[hq]
  show tab i.1 n.toNat (fun _ _=>0)++[List.replicate n.toNat 0]=tab (i.1+1) n.toNat (fun _ _=>0)
  unfold tab
  rw[Bj]
  simp
  apply Dj<;>simp
 ·have hi:i.1=m.toNat:=by have:=i.2;omega
  rw[hi]
def trU (a:MQ) (r c:Nat):MQ:=tab (wdM a) a.length fun i j=>if j<r\/j=r/\i<c then ent a j i else 0
noncomputable def c2l:Ctr:=⟨[tM],[tM],fun x=>okM x.1,fun x=>(trM x.1,())⟩
theorem a6q:aI Tryz.prog 71 c2l:=by
 refine aK (nil0.an a0Z) ⟨[],[],[]⟩ Tryz.func71 rfl (by decide) (fun x=>[.inv {k:Nat // k<=(show MQ from x.1).length} (fun r=>[(4,.val tI (r.1:Int))]) (fun r=>[(12,.mat 39 47 tQ none (trU (show MQ from x.1) r.1 0) 0)]) (fun r=>(show MQ from x.1).length-r.1) ⟨0,by omega⟩ (fun r=>[.inv {k:Nat // k<=wdM (show MQ from x.1)} (fun c=>[(5,.val tI (c.1:Int))]) (fun c=>[(12,.mat 39 47 tQ none (trU (show MQ from x.1) r.1 c.1) 0)]) (fun c=>wdM (show MQ from x.1)-c.1) ⟨0,by omega⟩ (fun _=>[])])]) (fun x hp=>?_)
 obtain⟨a,u⟩:=x
 change List (List Rat) at a
 refine aU (let A₀:=(List.getD a 0 (aF Rat)).length;(asT Int 0<=0/\0<aB a.length/\(0<=aB A₀/\aB A₀<=1000/\0<=aB a.length/\aB a.length<=1000)/\True)/\(asT Int 0=0/\BQ (aB A₀).toNat (aB a.length).toNat=trU a 0 0/\True)/\∀ (i:{ k:Nat // k<=List.length a }),let A₁:=(List.getD a (aB (aA i)).toNat (aF Rat));asT Bool true=true/\ifB (decide (aB (aA i)<aB a.length)) ((asT Int 0=0/\trU a (aA i) 0=trU a (aA i) 0/\True)/\∀ (i_1:{ k:Nat // k<=wdM a }),let aJ:=(trU a (aA i) (aA i_1));let aT:=(aB (aA i_1)).toNat;let A₂:=(rowAt aJ (nameAt none aT));asT Bool true=true/\(0<=aB (aA i)/\aB (aA i)<aB a.length/\True)/\ifB (decide (aB (aA i_1)<aB A₁.length)) ((0<=aB (aA i_1)/\aB (aA i_1)<aB (aN none aJ)/\Int.toNat (aB (aA i_1))<aN none aJ/\0<=aB (aA i)/\aB (aA i)<aB a.length/\0<=aB (aA i_1)/\aB (aA i_1)<aB A₁.length/\0<=aB (aA i)/\aB (aA i)<aB A₂.length/\Int.toNat (aB (aA i))<List.length A₂/\True)/\∃ (i':{ k:Nat // k<=wdM a }),wdM a-aA i'<wdM a-aA i_1/\IntKind.wrap IntKind.i64 (aB (aA i_1)+1)=aB (aA i')/\List.set aJ (nameAt none aT) (List.set A₂ (aB (aA i)).toNat (List.getD A₁ aT 0))=trU a (aA i) (aA i')/\True) (∃ (i':{ k:Nat // k<=List.length a }),List.length a-aA i'<List.length a-aA i/\IntKind.wrap IntKind.i64 (aB (aA i)+1)=aB (aA i')/\trU a (aA i) (aA i_1)=trU a (aA i') 0/\True)) (True/\trU a (aA i) 0=trM a/\True)) (by kernel_rfl) ?_
 have hZ:(⟨false,0,[],[]⟩:aH)=bF:=rfl
 dsimp only[aB,asT,aA,aF,Ty.den,Lf.den] at *
 simp only[hZ,Int.toNat_natCast,aC,aj,ah,jh,jg,aN,nameAt,bJ,eX,eY,rowAt,gy,bf]
 have ha:okM a:=hp
 have q1:=ha.r64
 have q2:=ha.c64
 have q5:=ha.pos
 rw[show (a.getD 0 []).length=wdM a from rfl]
 refine⟨⟨Dh 0,by omega,by omega,by omega,by omega,by omega⟩,eF fun p _ q _=>(ji (by omega)).symm,fun i=>⟨fun h1 c=>?_,fun h1=>eF fun p _ q hq=>jm (by omega)⟩⟩
 have hi:i.1<a.length:=by omega
 rw[ha.row hi]
 refine⟨⟨by omega,h1⟩,fun h2=>?_,fun h2=>⟨⟨i.1+1,by omega⟩,by simp only;omega,by rw[aP (by omega) (by omega)];rfl,eF fun p hp q _=>?_⟩⟩
 ·have hc:c.1<wdM a:=by omega
  have e1:(trU a i.1 c.1).length=wdM a:=eY
  have e2:((trU a i.1 c.1).getD c.1 []).length=a.length:=by unfold trU;rw[gU hc];simp
  rw[e1,e2]
  refine⟨⟨by omega,by omega,hc,by omega,by omega,by omega,by omega,by omega,by omega,hi⟩,⟨c.1+1,by omega⟩,by simp only;omega,by rw[aP (by omega) (by omega)];rfl,(BI _ hc).trans (eF fun p _ q _=>?_)⟩
  show (if p=c.1/\q=i.1 then ent a i.1 c.1 else if q<i.1\/q=i.1/\p<c.1 then ent a q p else 0)=if q<i.1\/q=i.1/\p<c.1+1 then ent a q p else 0
  by_cases e:p=c.1/\q=i.1
  ·rw[jm e,jm (by omega),e.1,e.2]
  ·rw[ji e]
   by_cases e3:q<i.1\/q=i.1/\p<c.1
   ·rw[jm e3,jm (by omega)]
   ·rw[ji e3,ji (by omega)]
 ·show (if q<i.1\/q=i.1/\p<c.1 then ent a q p else 0)=if q<i.1+1\/q=i.1+1/\p<0 then ent a q p else 0
  by_cases e3:q<i.1\/q=i.1/\p<c.1
  ·rw[jm e3,jm (by omega)]
  ·rw[ji e3,ji (by omega)]
end Go.Proofs.YtbkocjmmbkifjaaGreat
