/-
  Lemmas for the theorem veight28_holds, part 25 of 32.
-/
import Derived.Test.YtbkocjmmbkifjaaGreatQg24
namespace Go.Proofs.YtbkocjmmbkifjaaGreat
open Go Go.RowKit
set_option maxRecDepth 100000
set_option maxHeartbeats 1000000
set_option linter.unusedVariables false
set_option linter.unusedSimpArgs false
theorem a2K {f:Nat->Rat} {K:Nat}:∀ n,(∀ i,i<n->rsz (f i)<=K)->rsz (sm n f)<=n*(K+1)+1
 | 0,_=>by show rsz 0<=_;rw[show rsz 0=1 by decide +kernel];omega
 | n+1,h=>by
  have h1:=a2K n (fun i hi=>h i (by omega))
  have h2:=h n (by omega)
  have h3:=a4z (sm n f) (f n)
  show rsz (sm n f+f n)<=_
  rw[yg];omega
def qL (x y:LQ') (k:Nat):Rat:=sm k fun i=>lv x i*lv y i
def a5m (x y:LQ'):Prop:=x.length=y.length/\x.length<=64/\∀ i,i<x.length->rsz (lv x i)<=1000000/\rsz (lv y i)<=1000000
theorem a7o {x y:LQ'} (h:a5m x y) {k:Nat} (hk:k<=x.length):rsz (qL x y k)<=200000000:=by
 have h1:=a2K (K:=2000000) (f:=fun i=>lv x i*lv y i) k (fun i hi=>by
  have ⟨a,b⟩:=h.2.2 i (by omega)
  have:=wG (lv x i) (lv y i);show rsz (lv x i*lv y i)<=_;omega)
 have h2:=h.2.1
 have:k*(2000000+1)<=64*2000001:=xw (by omega) (by omega)
 show rsz (sm k _)<=_
 omega
theorem qY {x:Rat}:sgn x.num=0↔x=0:=⟨fun h=>Rat.num_eq_zero.mp (Ef.1 h),fun h=>by rw[h];rfl⟩
noncomputable def b9l:Ctr:=⟨[.list tQ,.list tQ],[tQ],fun x=>a5m x.1 x.2.1,fun x=>(qL x.1 x.2.1 (show LQ' from x.1).length,())⟩
theorem a7n:aI Tryz.prog 233 b9l:=by
 refine oM ((((nil0.ad AP).ad XD).ad LP).ad LU) [4,5,7] Tryz.func233 rfl (by decide) (fun x=>[.inv {k:Nat // k<=(show LQ' from x.1).length} (fun k=>[(11,.val tI (k.1:Int))]) (fun k=>[(4,.box [⟨tR,bF⟩]),(5,.box [⟨tQ,qL x.1 x.2.1 k.1⟩])]) (fun k=>(show LQ' from x.1).length-k.1) ⟨0,by omega⟩ (fun _=>[])]) (fun x hp=>?_)
 obtain⟨x,y,u⟩:=x
 change List Rat at x
 change List Rat at y
 refine aY ((dU 0/\True)/\(asT Int 0=0/\asT aH { ok:=false,x:=0,g:=aG Nat,h:=aG Nat }=bF/\bV 0=qL x y 0/\True)/\∀ (i:{ k:Nat // k<=List.length x }),let A₁:=(aB (aA i)).toNat;let A₂:=(Rat.num (List.getD x A₁ 0));let A₀:=((sgn A₂ != 0)==true);let aW:=(A₀=true->A₀=true/\True);asT Bool true=true/\ifB (decide (aB (aA i)<aB x.length)) ((0<=aB (aA i)/\aB (aA i)<aB x.length/\True)/\(rsz (List.getD x A₁ 0)<=1000000000/\(A₀=true->A₀=true/\A₀=true/\0<=aB (aA i)/\aB (aA i)<aB y.length/\True)/\aW/\(A₀=true->A₀=true/\rsz (List.getD y A₁ 0)<=1000000000/\True)/\aW/\((sgn A₂ != 0)=true->A₀=true)/\True)/\ifB (bif sgn A₂ != 0 then sgn (Rat.num (List.getD y A₁ 0)) != 0 else false) ((0<=aB (aA i)/\aB (aA i)<aB y.length/\s44 (List.getD x A₁ 0) (List.getD y A₁ 0)/\s44 (qL x y (aA i)) (List.getD x A₁ 0*List.getD y A₁ 0)/\True)/\∃ (i':{ k:Nat // k<=List.length x }),List.length x-aA i'<List.length x-aA i/\IntKind.wrap IntKind.i64 (aB (aA i)+1)=aB (aA i')/\asT aH bF=bF/\qL x y (aA i)+List.getD x A₁ 0*List.getD y A₁ 0=qL x y (aA i')/\True) (∃ (i':{ k:Nat // k<=List.length x }),List.length x-aA i'<List.length x-aA i/\IntKind.wrap IntKind.i64 (aB (aA i)+1)=aB (aA i')/\asT aH bF=bF/\qL x y (aA i)=qL x y (aA i')/\True)) (True/\qL x y (aA i)=qL x y x.length/\True)) (by kernel_rfl) ?_
 have hp:a5m x y:=hp
 have hZ:(⟨false,0,[],[]⟩:aH)=bF:=rfl
 dsimp only[aB,asT,aA,aG] at *
 simp only[hZ,Int.toNat_natCast,aF,ak,ah,jo,jm]
 have hs:=fun k (hk:k<=x.length)=>a7o hp hk
 obtain⟨hl,h64,hr⟩:=hp
 refine⟨by unfold dU;omega,rfl,fun i=>⟨fun h1=>?_,fun h1=>?_⟩⟩
 ·have hi:i.1<x.length:=by omega
  have a1:rsz (x.getD i.1 0)<=1000000:=(hr i.1 hi).1
  have a2:rsz (y.getD i.1 0)<=1000000:=(hr i.1 hi).2
  have a3:=hs i.1 i.2
  have a4:=wG (x.getD i.1 0) (y.getD i.1 0)
  refine⟨⟨by omega,h1⟩,⟨by omega,fun h=>⟨h,h,by omega,by omega⟩,fun h=>h,fun h=>⟨h,by omega⟩,fun h=>h,fun h=>by rw[h];rfl⟩,fun h=>⟨⟨by omega,by omega,⟨by omega,by omega⟩,by omega,by omega⟩,⟨i.1+1,by omega⟩,by simp only;omega,by rw[aS (by omega) (by omega)];rfl,rfl⟩,fun h=>⟨⟨i.1+1,by omega⟩,by simp only;omega,by rw[aS (by omega) (by omega)];rfl,?_⟩⟩
  have hz:x.getD i.1 0*y.getD i.1 0=0:=by
   by_cases hx:sgn (x.getD i.1 0).num=0
   ·have h9:x.getD i.1 0=0:=qY.mp hx
    rw[h9];grind
   ·rw[show (sgn (x.getD i.1 0).num != 0)=true from ni.mpr hx] at h
    have h:(sgn (y.getD i.1 0).num != 0)=false:=h
    have h9:y.getD i.1 0=0:=qY.mp (by simpa using h)
    rw[h9];grind
  show sm i.1 _=sm i.1 _+x.getD i.1 0*y.getD i.1 0
  rw[hz];grind
 ·have:i.1=x.length:=by have:=i.2;omega
  rw[this]
abbrev TCo:List Ty:=[.ref tM]
def b2r (c:(nest TCo).den) (i j:Int):Prop:=0<=i/\i.toNat<(show MQ from c.1).length/\0<=j/\j.toNat<((show MQ from c.1).getD i.toNat []).length
def gCo (c:(nest TCo).den) (i j:Nat):Rat:=ent c.1 i j
theorem TK:aI Tryz.prog 276 (b1a TCo b2r gCo):=by
 refine oM nil0 [5] Tryz.func276 rfl (by decide) (fun x=>[]) (fun x hp=>?_)
 obtain⟨i,j,c⟩:=x
 change Int at i
 change Int at j
 obtain⟨a,u⟩:=c
 change List (List Rat) at a
 refine aY ((0<=i/\i<aB a.length/\0<=j/\j<aB (List.getD a i.toNat (aG Rat)).length/\True)/\True/\List.getD (List.getD a i.toNat (aG Rat)) j.toNat 0=ent a i.toNat j.toNat/\True) (by kernel_rfl) ?_
 try dsimp only[aB,asT,aA,aG] at *
 have h1:0<=i/\i.toNat<a.length/\0<=j/\j.toNat<(a.getD i.toNat []).length:=hp
 exact⟨⟨h1.1,by omega,h1.2.2.1,by omega,trivial⟩,trivial,rfl,trivial⟩
abbrev TTu:List Ty:=[.ref tM]
def b5C (c:(nest TTu).den) (i j:Int):Prop:=0<=i/\0<=j/\j.toNat<(show MQ from c.1).length/\i.toNat<((show MQ from c.1).getD j.toNat []).length
def gTu (c:(nest TTu).den) (i j:Nat):Rat:=ent c.1 j i
theorem a5o:aI Tryz.prog 273 (b1a TTu b5C gTu):=by
 refine oM nil0 [5] Tryz.func273 rfl (by decide) (fun x=>[]) (fun x hp=>?_)
 obtain⟨i,j,c⟩:=x
 change Int at i
 change Int at j
 obtain⟨a,u⟩:=c
 change List (List Rat) at a
 refine aY ((0<=j/\j<aB a.length/\0<=i/\i<aB (List.getD a j.toNat (aG Rat)).length/\True)/\True/\List.getD (List.getD a j.toNat (aG Rat)) i.toNat 0=ent a j.toNat i.toNat/\True) (by kernel_rfl) ?_
 try dsimp only[aB,asT,aA,aG] at *
 have h1:0<=i/\0<=j/\j.toNat<a.length/\i.toNat<(a.getD j.toNat []).length:=hp
 exact⟨⟨h1.2.1,by omega,h1.1,by omega,trivial⟩,trivial,rfl,trivial⟩
abbrev TMu:List Ty:=[.ref tM,.ref tM]
def b5B (c:(nest TMu).den) (i j:Int):Prop:=0<=i/\i.toNat<(show MQ from c.1).length/\0<=j/\j.toNat<(show MQ from c.2.1).length/\a5m ((show MQ from c.1).getD i.toNat []) ((show MQ from c.2.1).getD j.toNat [])
def gMu (c:(nest TMu).den) (i j:Nat):Rat:=qL ((show MQ from c.1).getD i []) ((show MQ from c.2.1).getD j []) ((show MQ from c.1).getD i []).length
theorem a5n:aI Tryz.prog 232 (b1a TMu b5B gMu):=by
 refine oM (nil0.ad a7n) [6] Tryz.func232 rfl (by decide) (fun x=>[]) (fun x hp=>?_)
 obtain⟨i,j,c⟩:=x
 change Int at i
 change Int at j
 obtain⟨a,b,u⟩:=c
 change List (List Rat) at a
 change List (List Rat) at b
 refine aY ((0<=i/\i<aB a.length/\0<=j/\j<aB b.length/\a5m (List.getD a i.toNat (aG Rat)) (List.getD b j.toNat (aG Rat))/\True)/\True/\qL (List.getD a i.toNat (aG Rat)) (List.getD b j.toNat (aG Rat)) (List.getD a i.toNat (aG Rat)).length=gMu (a,b,u) i.toNat j.toNat/\True) (by kernel_rfl) ?_
 try dsimp only[aB,asT,aA,aG] at *
 have h1:0<=i/\i.toNat<a.length/\0<=j/\j.toNat<b.length/\a5m (a.getD i.toNat []) (b.getD j.toNat []):=hp
 exact⟨⟨h1.1,by omega,h1.2.2.1,by omega,h1.2.2.2.2,trivial⟩,trivial,rfl,trivial⟩
theorem a8R:NOk Tryz.prog 184 (a9b 276 TCo b2r gCo):=by
 refine XZ (nil0.ad TK) ⟨[],[],[(11,tR)]⟩ Tryz.func184 rfl (by decide) (fun x=>XV x.1 x.2.1 (gCo x.2.2.1)) (fun x hp=>?_)
 obtain⟨m,n,c,u⟩:=x
 obtain⟨R,C,hR,hC,r2,c2,hP⟩:=hp
 change m=(R:Int) at hR
 change n=(C:Int) at hC
 subst hR hC
 refine aY (QB R C (gCo c) (b2r c) (fun y=>bM R C (gCo c)=y)) (by kernel_rfl) ?_
 exact JF r2 c2 hP rfl
theorem a8T:NOk Tryz.prog 184 (a9b 273 TTu b5C gTu):=by
 refine XZ (nil0.ad a5o) ⟨[],[],[(11,tR)]⟩ Tryz.func184 rfl (by decide) (fun x=>XV x.1 x.2.1 (gTu x.2.2.1)) (fun x hp=>?_)
 obtain⟨m,n,c,u⟩:=x
 obtain⟨R,C,hR,hC,r2,c2,hP⟩:=hp
 change m=(R:Int) at hR
 change n=(C:Int) at hC
 subst hR hC
 refine aY (QB R C (gTu c) (b5C c) (fun y=>bM R C (gTu c)=y)) (by kernel_rfl) ?_
 exact JF r2 c2 hP rfl
theorem a8S:NOk Tryz.prog 184 (a9b 232 TMu b5B gMu):=by
 refine XZ (nil0.ad a5n) ⟨[],[],[(11,tR)]⟩ Tryz.func184 rfl (by decide) (fun x=>XV x.1 x.2.1 (gMu x.2.2.1)) (fun x hp=>?_)
 obtain⟨m,n,c,u⟩:=x
 obtain⟨R,C,hR,hC,r2,c2,hP⟩:=hp
 change m=(R:Int) at hR
 change n=(C:Int) at hC
 subst hR hC
 refine aY (QB R C (gMu c) (b5B c) (fun y=>bM R C (gMu c)=y)) (by kernel_rfl) ?_
 exact JF r2 c2 hP rfl
theorem b0X (x:List Rat):oJ (fun(x:Ty.den (Ty.lf Lf.rat))=>dK []) x:=lI.mpr fun _ _=>trivial
theorem b0Y (a:MQ):oJ (fun(x:Ty.den (Ty.list (Ty.lf Lf.rat)))=>dK [oJ (fun(x:Ty.den (Ty.lf Lf.rat))=>dK []) x]) a:=lI.mpr fun r _=>⟨b0X r,trivial⟩
theorem ifF {b:Bool} {p q:Prop} (h:b=false) (hq:q):ifB b p q:=by subst h;exact hq
theorem b5s {x:Int} (h:x=0):(x != 0)=false:=by rw[h];rfl
theorem okM.pos {a:MQ} (h:okM a):0<a.length:=by have:=h.1.2.2.1;omega
theorem okM.poz {a:MQ} (h:okM a):(0:Int)<(a.length:Int):=by have:=h.pos;omega
theorem okM.r64 {a:MQ} (h:okM a):a.length<=64:=h.1.2.2.2.1
theorem okM.c1 {a:MQ} (h:okM a):1<=wdM a:=h.1.2.2.2.2.1
theorem okM.c64 {a:MQ} (h:okM a):wdM a<=64:=h.1.2.2.2.2.2
theorem okM.row {a:MQ} (h:okM a) {i:Nat} (hi:i<a.length):(a.getD i []).length=wdM a:=h.1.row hi
noncomputable def b2j:kR:=.mk LKm [tM] (fun x=>okM x.1) (fun x=>bM (show MQ from x.1).length (wdM (show MQ from x.1)) (ent x.1))
theorem a7i:NOk Tryz.prog 244 b2j:=by
 refine XZ ((((nil0.ad TK).an a8R).an a8T).an a8S) ⟨[],[],[]⟩ Tryz.func244 rfl (by decide) (fun x=>[]) (fun x hp=>?_)
 obtain⟨a,u⟩:=x
 change List (List Rat) at a
 refine aY ((asT Int 0<=0/\0<aB a.length/\b4a TCo b2r (aB a.length,aB (List.getD a 0 (aG Rat)).length,(a,()),())/\True)/\bM a.length (wdM a) (ent a)=bM (aB a.length).toNat (aB (List.getD a 0 (aG Rat)).length).toNat (gCo (a,()))) (by kernel_rfl) ?_
 have ha:okM a:=hp
 exact⟨⟨Int.le_refl 0,ha.poz,⟨a.length,wdM a,rfl,rfl,by have:=ha.r64;omega,by have:=ha.c64;omega,fun i j hi hj=>⟨Int.natCast_nonneg i,hi,Int.natCast_nonneg j,by show j<(a.getD i []).length;rw[ha.row hi];exact hj⟩⟩,trivial⟩,rfl⟩
noncomputable def b9z:Ctr:=⟨[tQ,tQ],[tQ],fun x=>rsz x.1<=400000000/\rsz x.2.1<=400000000/\(show Rat from x.2.1)≠0,fun x=>((show Rat from x.1) / (show Rat from x.2.1),())⟩
theorem a9B:aI Tryz.prog 246 b9z:=by
 refine aO (nil0.ad a3y) ⟨[4,5],[],[]⟩ Tryz.func246 rfl (by decide) (fun x=>[]) (fun x hp=>?_)
 obtain⟨a,b,u⟩:=x
 change Rat at a
 change Rat at b
 refine aY (((rsz a<=400000000/\rsz b<=400000000)/\True)/\(aH.ok (SI 14 a b).1=true/\True)/\aH.x (SI 14 a b).1=a / b/\True) (by kernel_rfl) ?_
 have hp:rsz a<=400000000/\rsz b<=400000000/\b≠0:=hp
 have e:SI 14 a b=(dL (a / b),(0:Int),()):=jd hp.2.2
 rw[e]
 exact⟨⟨⟨hp.1,hp.2.1⟩,trivial⟩,⟨rfl,trivial⟩,rfl,trivial⟩
def oD (x:LR) (o:LQ') (k:Rat) (s t:Nat):LR:=(List.range x.length).map fun c=>if s<=c/\c<t then dL ((x.getD c bF).x-k*lv o c) else x.getD c bF
theorem b0w (x:LR) (o:LQ') (k:Rat) (s t:Nat):(oD x o k s t).length=x.length:=by simp[oD]
theorem b3f {x:LR} {o:LQ'} {k:Rat} {s t c:Nat} (h:c<x.length):(oD x o k s t).getD c bF=if s<=c/\c<t then dL ((x.getD c bF).x-k*lv o c) else x.getD c bF:=iR h
theorem b5M (x:LR):(List.range x.length).map (fun c=>x.getD c bF)=x:=by
 apply Ei
 ·simp
 ·intro i h1 h2;simp[bn,h2]
theorem a6r (x:LR) (o:LQ') (k:Rat) (s:Nat):oD x o k s s=x:=by
 unfold oD
 rw[show (fun c=>if s<=c/\c<s then dL ((x.getD c bF).x-k*lv o c) else x.getD c bF)=(fun c=>x.getD c bF) from funext fun c=>jd (by omega)]
 exact b5M x
theorem b0y {x:LR} {o:LQ'} {k:Rat} {s t:Nat} (h:s<=t):(oD x o k s t).set t (dL ((x.getD t bF).x-k*lv o t))=oD x o k s (t+1):=by
 unfold oD;rw[map_set]
 refine ny fun c _=>?_
 by_cases e:c=t
 ·subst e;rw[jl rfl,jl ⟨h,by omega⟩]
 ·rw[jd e]
  by_cases h2:s<=c/\c<t
  ·rw[jl h2,jl ⟨h2.1,by omega⟩]
  ·rw[jd h2,jd (by omega)]
theorem a6q {x:LR} {o:LQ'} {k:Rat} {s t:Nat} (hx:∀ q ∈ x,q=dL q.x) (h:lv o t=0):oD x o k s (t+1)=oD x o k s t:=by
 unfold oD
 refine ny fun c hc=>?_
 by_cases h2:s<=c/\c<t
 ·rw[jl h2,jl ⟨h2.1,by omega⟩]
 ·rw[jd h2]
  split
  ·have e:c=t:=by omega
   subst e
   have h3:x.getD c bF=dL (x.getD c bF).x:=dB hx (uj.mp hc)
   rw[h,show (x.getD c bF).x-k*0=(x.getD c bF).x by grind,<-h3]
  ·rfl
theorem b0v {x:LR} {o:LQ'} {k:Rat} {s t:Nat} (h:x.length<=t):oD x o k s t=oD x o k s x.length:=by
 unfold oD
 refine ny fun c hc=>?_
 have:=uj.mp hc
 by_cases h2:s<=c
 ·rw[jl ⟨h2,by omega⟩,jl ⟨h2,by omega⟩]
 ·rw[jd (by omega),jd (by omega)]
noncomputable def c2x:kR:=.chg (.row 47 tR) [.list tQ,tQ,tI] [] (fun x y=>(∀ q ∈ (show LR from x),q=dL q.x)/\(show LR from x).length=(show LQ' from y.1).length/\(show LR from x).length<=1000/\0<=(show Int from y.2.2.1)/\(∀ q ∈ (show LR from x),rsz q.x<=400000000)/\rsz y.2.1<=100000000/\∀ q ∈ (show LQ' from y.1),rsz q<=100000000) (fun x y=>oD x y.1 y.2.1 (show Int from y.2.2.1).toNat (show LR from x).length) (fun _ _=>())
theorem c0S:NOk Tryz.prog 245 c2x:=by
 refine a3U (((nil0.ad LP).ad a3E).ad LU) ⟨[],[],[]⟩ Tryz.func245 rfl (by decide) (fun x y=>[.inv {k:Nat // (show Int from y.2.2.1).toNat<=k} (fun k=>[(8,.val tI (k.1:Int))]) (fun k=>[(0,.row 47 tR (oD x y.1 y.2.1 (show Int from y.2.2.1).toNat k.1) 0)]) (fun k=>(show LR from x).length-k.1) ⟨(show Int from y.2.2.1).toNat,ay _⟩ (fun _=>[])]) (fun x y hp=>?_)
 obtain⟨o,k,s,u⟩:=y
 change List aH at x
 change List Rat at o
 change Rat at k
 change Int at s
 refine aY ((s=aB s.toNat/\x=oD x o k s.toNat s.toNat/\True)/\∀ (i:{ k:Nat // Int.toNat s<=k }),let A₀:=(oD x o k s.toNat (aA i));let A₁:=(aB (aA i)).toNat;let A₂:=(List.getD A₀ A₁ { ok:=false,x:=0,g:=aG Nat,h:=aG Nat });asT Bool true=true/\ifB (decide (aB (aA i)<aB A₀.length)) ((0<=aB (aA i)/\aB (aA i)<aB o.length/\rsz (List.getD o A₁ 0)<=1000000000/\True)/\ifB (sgn (Rat.num (List.getD o A₁ 0)) != 0) ((0<=aB (aA i)/\aB (aA i)<aB A₀.length/\Int.toNat (aB (aA i))<List.length A₀/\0<=aB (aA i)/\aB (aA i)<aB o.length/\s44 k (List.getD o A₁ 0)/\aH.ok A₂=true/\s44 (aH.x A₂) (k*List.getD o A₁ 0)/\0<=aB (aA i)/\aB (aA i)<aB A₀.length/\Int.toNat (aB (aA i))<List.length A₀/\True)/\∃ (i':{ k:Nat // Int.toNat s<=k }),List.length x-aA i'<List.length x-aA i/\IntKind.wrap IntKind.i64 (aB (aA i)+1)=aB (aA i')/\List.set A₀ A₁ (dL (aH.x A₂-k*List.getD o A₁ 0))=oD x o k s.toNat (aA i')/\True) (∃ (i':{ k:Nat // Int.toNat s<=k }),List.length x-aA i'<List.length x-aA i/\IntKind.wrap IntKind.i64 (aB (aA i)+1)=aB (aA i')/\oD x o k s.toNat (aA i)=oD x o k s.toNat (aA i')/\True)) (oD x o k s.toNat x.length=oD x o k s.toNat (aA i))) (by kernel_rfl) ?_
 have hp:(∀ q ∈ x,q=dL q.x)/\x.length=o.length/\x.length<=1000/\0<=s/\(∀ q ∈ x,rsz q.x<=400000000)/\rsz k<=100000000/\∀ q ∈ o,rsz q<=100000000:=hp
 obtain⟨hq,hl,hm,hs,zx,zk,zo⟩:=hp
 have hZ:(⟨false,0,[],[]⟩:aH)=bF:=rfl
 dsimp only[aB,asT,aA,aG] at *
 simp only[hZ,Int.toNat_natCast,aF,ak,ah,jo,jm,b0w]
 refine⟨⟨by omega,(a6r _ _ _ _).symm⟩,fun i=>⟨fun h1=>?_,fun h1=>?_⟩⟩
 ·have hi:i.1<x.length:=by omega
  have z1:rsz (o.getD i.1 0)<=100000000:=dB zo (by omega)
  have z2:rsz (x.getD i.1 bF).x<=400000000:=dB (p:=fun q:aH=>rsz q.x<=400000000) zx hi
  have z3:=wG k (o.getD i.1 0)
  have e1:(oD x o k s.toNat i.1).getD i.1 bF=x.getD i.1 bF:=by rw[b3f hi,jd (by omega)]
  have e2:x.getD i.1 bF=dL (x.getD i.1 bF).x:=dB hq hi
  rw[e1]
  refine⟨⟨by omega,by omega,by omega⟩,fun h2=>⟨⟨by omega,by omega,hi,by omega,by omega,⟨by omega,by omega⟩,by rw[e2];rfl,⟨by omega,by omega⟩,by omega,by omega,hi⟩,⟨i.1+1,by have:=i.2;omega⟩,by simp only;omega,by rw[aS (by omega) (by omega)];rfl,b0y i.2⟩,fun h2=>⟨⟨i.1+1,by have:=i.2;omega⟩,by simp only;omega,by rw[aS (by omega) (by omega)];rfl,?_⟩⟩
  have h9:lv o i.1=0:=qY.mp (by simpa using h2)
  exact(a6q hq h9).symm
 ·exact(b0v (by omega)).symm
def scl (m:Mt) (r j c:Nat) (v:Rat):Mt:=fun i d=>if i=r/\j<=d/\d<c then v*m i d else m i d
def elm (m:Mt) (r j t:Nat):Mt:=fun i d=>if i≠r/\i<t/\j<=d then m i d-m i j*m r d else m i d
theorem b0i (m:Mt) (r j:Nat) (v:Rat):scl m r j j v=m:=by
 funext i d;unfold scl;rw[jd (by omega)]
theorem b0h (m:Mt) {r j c:Nat} (h:j<=c) (v:Rat):scl m r j (c+1) v=fun i d=>if i=r then (fun e=>if e=c then v*m r c else scl m r j c v r e) d else scl m r j c v i d:=by
 funext i d
 unfold scl
 by_cases h1:i=r
 ·subst h1;simp only[Di,jo]
  by_cases h2:d=c
  ·subst h2;rw[jl ⟨h,by omega⟩,jl rfl]
  ·rw[jd h2]
   by_cases h3:j<=d/\d<c
   ·rw[jl h3,jl ⟨h3.1,by omega⟩]
   ·rw[jd h3,jd (by omega)]
 ·simp only[jd h1];rw[jd (by simp[h1]),jd (by simp[h1])]
theorem b8L (m:Mt) {r j c:Nat} (v:Rat) {d:Nat} (h:c<=d) (i:Nat):scl m r j c v i d=m i d:=by unfold scl;rw[jd (by omega)]
theorem a7u (m:Mt) (r j:Nat):elm m r j 0=m:=by
 funext i d;unfold elm;rw[jd (by omega)]
theorem ZV (m:Mt) (r j t d:Nat):elm m r j t r d=m r d:=by unfold elm;rw[jd (by simp)]
theorem b4z (m:Mt) {r j t i:Nat} (h:t<=i) (d:Nat):elm m r j t i d=m i d:=by unfold elm;rw[jd (by omega)]
theorem a7t (m:Mt) {r j t:Nat} (h:t≠r):elm m r j (t+1)=fun i d=>if i=t then (fun e=>if j<=e then m t e-m t j*m r e else m t e) d else elm m r j t i d:=by
 funext i d
 unfold elm
 by_cases h1:i=t
 ·subst h1;simp only[Di]
  by_cases h2:j<=d
  ·rw[jl ⟨h,by omega,h2⟩,jl h2]
  ·rw[jd (by omega),jd h2]
 ·simp only[jd h1]
  by_cases h2:i≠r/\i<t/\j<=d
  ·rw[jl h2,jl ⟨h2.1,by omega,h2.2.2⟩]
  ·rw[jd h2,jd (by omega)]
theorem a7s (m:Mt) {r j t:Nat} (h:t=r\/m t j=0):elm m r j (t+1)=elm m r j t:=by
 funext i d
 unfold elm
 by_cases h1:i=t
 ·subst h1
  rw[jd (c:=i≠r/\i<i/\j<=d) (by omega)]
  rcases h with h|h
  ·rw[jd (by simp[h])]
  ·split
   ·rw[h];grind
   ·rfl
 ·by_cases h2:i≠r/\i<t/\j<=d
  ·rw[jl h2,jl ⟨h2.1,by omega,h2.2.2⟩]
  ·rw[jd h2,jd (by omega)]
theorem b3e {m:Mt} {R C r k j:Nat} (hz:m k j≠0) (hr:r<=k) (hk:k<R) (h0:∀ i,r<=i->i<R->∀ d,d<j->m i d=0) :
  ∀ i,i<R->∀ d,d<C->elm (scl (gI m r k) r j C (1 / m k j)) r j R i d=iH m r k j i d:=by
 intro i hi d hd
 have hs:∀ e,gI m r k r e=m k e:=fun e=>by unfold gI;rw[jl rfl]
 have hv:m k j*(m k j)⁻¹=1:=Bl _ hz
 have hrow:∀ e,e<C->scl (gI m r k) r j C (1 / m k j) r e=m k e / m k j:=fun e he=>by
  unfold scl
  by_cases h:j<=e
  ·rw[jl ⟨rfl,h,he⟩,hs,Rat.div_def,Rat.div_def];grind
  ·rw[jd (by omega),hs,h0 k hr hk e (by omega),Rat.div_def];grind
 by_cases e1:i=r
 ·subst e1
  rw[ZV,hrow d hd];unfold iH;rw[jl rfl]
 ·have hoth:∀ e,scl (gI m r k) r j C (1 / m k j) i e=gI m r k i e:=fun e=>by unfold scl;rw[jd (by simp[e1])]
  unfold iH;rw[jd e1]
  unfold elm
  by_cases h:j<=d
  ·rw[jl ⟨e1,hi,h⟩,hoth,hoth,hrow d hd]
  ·rw[jd (by omega),hoth,h0 k hr hk d (by omega),Rat.div_def];grind
def YB (R C:Nat) (e:Mt) (n:Nat):Prop:=∀ t,t<=n->∀ i,i<R->∀ c,c<C->rsz ((red R e t).1 i c)<=10000000
theorem b2s {R C n K:Nat} {e:Mt} (H:Cdn e R C K) (hn:n<=C) (hK:2 ^ n*(K+1)<=10000000):YB R C e n:=fun t ht i hi c hc=>by
 have h1:=(H.red t (by omega)).rsz hi hc
 have h2:2 ^ t*(K+1)<=2 ^ n*(K+1):=xw (wu (by omega) ht) (ay _)
 omega
theorem YB.at {R C n:Nat} {e:Mt} (h:YB R C e n) {i c:Nat} (hi:i<R) (hc:c<C):rsz (e i c)<=10000000:=h 0 (by omega) i hi c hc
theorem YB.mono {R C n m:Nat} {e:Mt} (h:YB R C e n) (hm:m<=n):YB R C e m:=fun t ht=>h t (by omega)
theorem a9I {R:Nat} {e:Mt} {n k:Nat} (hk:fk (red R e n).1 n (red R e n).2.length (R-(red R e n).2.length)=k) (hkR:k≠R):red R e (n+1)=(iH (red R e n).1 (red R e n).2.length k n,(red R e n).2++[n]):=by
 subst hk;exact jd hkR
theorem a9H {R:Nat} {e:Mt} {n:Nat} (hk:fk (red R e n).1 n (red R e n).2.length (R-(red R e n).2.length)=R):red R e (n+1)=red R e n:=jl hk
def uZ (a:MQ) (n:Nat):Mt × List Nat:=red a.length (ent a) n
def mulM (a b:MQ):MQ:=tab a.length (wdM b) (mm b.length (ent a) (ent b))
def trM (a:MQ):MQ:=tab (wdM a) a.length (tr (ent a))
def b0W (a b:MQ):MQ:=tab a.length (wdM a) (ma (ent a) (ent b))
def b3g (a b:MQ):MQ:=tab a.length (wdM a) (ms (ent a) (ent b))
def b1P (a:MQ):Mt × List Nat:=red a.length (b0Z a.length (ent a) idm) a.length
def b1O (a:MQ):MQ:=tab a.length a.length fun i j=>(b1P a).1 i (a.length+j)
def mvL (a:MQ) (x:List Rat):List Rat:=(List.range a.length).map (mv (wdM a) (ent a) (lv x))
instance c2H (N:Nat) (p:Nat->Prop) [DecidablePred p]:Decidable (∀ i,i<N->p i):=Nat.decidableBallLT N (fun i _=>p i)
def sV (a:MQ):MQ:=(frees (wdM a) (uZ a (wdM a)).2).map fun j=>(List.range (wdM a)).map (KZ (uZ a (wdM a)).1 (uZ a (wdM a)).2 j)
def CdM (a:MQ) (K:Nat):Prop:=Cdn (ent a) a.length (wdM a) K
theorem isM.len {a:MQ} {R C:Nat} (h:isM a R C):a.length=R:=h.1
theorem isM.self {a:MQ} {R C:Nat} (h:isM a R C):isM a a.length (wdM a):=by rw[h.len,h.wd];exact h
theorem b8S {R C:Nat} {f:Nat->Nat->Rat} (h:1<=R):wdM (tab R C f)=C:=by
 show ((tab R C f).getD 0 []).length=C;rw[GN (by omega)];simp
theorem YQ {R C K:Nat} {f:Mt} (h:1<=R) (H:Cdn f R C K):CdM (tab R C f) K:=by
 unfold CdM;rw[tC,b8S h];exact H.congr fun i hi j hj=>a3v hi hj
theorem CdM.sz {a:MQ} {K L:Nat} (H:CdM a K) (h:K<=L):szM a L:=fun i hi j hj=>jc (Cdn.rsz H hi hj) h
theorem CdM.ok {a:MQ} {R C K:Nat} (H:CdM a K) (h:isM a R C) (hK:K<=100000000):okM a:=⟨h.self,H.sz hK⟩
theorem isM.mul {a b:MQ} {R C D n:Nat} (h:isM a R C) (g:isM b n D):isM (mulM a b) R D:=by
 unfold mulM;rw[h.len,g.wd];exact GL h.2.2.1 h.2.2.2.1 g.2.2.2.2.1 g.2.2.2.2.2
theorem isM.add {a b:MQ} {R C:Nat} (h:isM a R C):isM (b0W a b) R C:=by
 unfold b0W;rw[h.len,h.wd];exact GL h.2.2.1 h.2.2.2.1 h.2.2.2.2.1 h.2.2.2.2.2
theorem isM.sub {a b:MQ} {R C:Nat} (h:isM a R C):isM (b3g a b) R C:=by
 unfold b3g;rw[h.len,h.wd];exact GL h.2.2.1 h.2.2.2.1 h.2.2.2.2.1 h.2.2.2.2.2
theorem isM.inv {a:MQ} {n C:Nat} (h:isM a n C):isM (b1O a) n n:=by
 unfold b1O;rw[h.len];exact GL h.2.2.1 h.2.2.2.1 h.2.2.1 h.2.2.2.1
theorem CdM.mul {a b:MQ} {R n C K L:Nat} (H:CdM a K) (G:CdM b L) (h:isM a R n) (g:isM b n C):CdM (mulM a b) (K+L+n):=by
 unfold mulM;rw[h.len,g.len,g.wd]
 refine YQ h.2.2.1 (Cdn.mm ?_ ?_)
 ·have:=H;unfold CdM at this;rwa [h.len,h.wd] at this
 ·have:=G;unfold CdM at this;rwa [g.len,g.wd] at this
theorem CdM.add {a b:MQ} {R C K L:Nat} (H:CdM a K) (G:CdM b L) (h:isM a R C) (g:isM b R C):CdM (b0W a b) (K+L+1):=by
 unfold b0W;rw[h.len,h.wd]
 refine YQ h.2.2.1 (Cdn.add ?_ ?_)
 ·have:=H;unfold CdM at this;rwa [h.len,h.wd] at this
 ·have:=G;unfold CdM at this;rwa [g.len,g.wd] at this
theorem CdM.sub {a b:MQ} {R C K L:Nat} (H:CdM a K) (G:CdM b L) (h:isM a R C) (g:isM b R C):CdM (b3g a b) (K+L+1):=by
 unfold b3g;rw[h.len,h.wd]
 refine YQ h.2.2.1 (Cdn.sub ?_ ?_)
 ·have:=H;unfold CdM at this;rwa [h.len,h.wd] at this
 ·have:=G;unfold CdM at this;rwa [g.len,g.wd] at this
theorem CdM.b1P {a:MQ} {n K:Nat} (H:CdM a K) (h:isM a n n):Cdn (b0Z n (ent a) idm) n (n+n) (K+1):=by
 have:=H;unfold CdM at this;rw[h.len,h.wd] at this
 exact Cdn.bes this (Cdn.idm n n)
theorem CdM.inv {a:MQ} {n K:Nat} (H:CdM a K) (h:isM a n n):CdM (b1O a) (2 ^ n*(K+2)-1):=by
 unfold b1O Proofs.YtbkocjmmbkifjaaGreat.b1P;rw[h.len]
 refine YQ h.2.2.1 ?_
 have H2:=Cdn.red (H.b1P h) n (by omega)
 obtain⟨D,d1,d2,d3⟩:=H2
 exact⟨D,d1,d2,fun i hi j hj=>d3 i hi (n+j) (by omega)⟩
def okE (a:MQ):Prop:=okM a/\YB a.length (wdM a) (ent a) (wdM a)
def OD (a:MQ):MQ:=tab a.length (wdM a) (uZ a (wdM a)).1
def gX (a:MQ):List Nat:=(uZ a (wdM a)).2
def aU (l:List Nat):List Int:=l.map fun p:Nat=>(p:Int)
theorem PE (l:List Nat):(aU l).length=l.length:=by simp[aU]
theorem MZ (R r k:Nat):((List.range R).set r k).set k r=(List.range R).map (fun i=>if i=k then r else if i=r then k else i):=by
 have h:=map_set (fun i=>i) R r k
 rw[List.map_id'] at h
 rw[h,map_set]
theorem b0B (R:Nat) {r k:Nat} (hr:r<R) (hk:k<R):(((List.range R).set r k).set k r).Nodup:=by
 rw[MZ]
 refine List.nodup_iff_pairwise_ne.mpr (List.pairwise_iff_getElem.mpr fun i j hi hj h=>?_)
 simp only[List.getElem_map,List.getElem_range]
 split<;>split<;>(try split)<;>(try split)<;>omega
theorem swp_get {R r k:Nat} (hr:r<R):(((List.range R).set r k).set k r).getD r 0=k:=by
 rw[MZ,iR hr]
 by_cases e:r=k
 ·rw[jl e];exact e
 ·rw[jd e,jl rfl]
theorem ER (l:List Nat) (j:Nat):(aU l).any (fun q=>q==(j:Int))=decide (j ∈ l):=by
 unfold aU
 rw[List.any_map]
 by_cases h:j ∈ l
 ·rw[xk h];exact List.any_eq_true.mpr ⟨j,h,beq_self_eq_true _⟩
 ·rw[qo h]
  refine Ec.mpr fun q hq=>?_
  show ¬ ((q:Int)==(j:Int))=true
  intro e
  have:(q:Int)=j:=eq_of_beq e
  exact h (by rw[<-show q=j by omega];exact hq)
theorem a0j {p:List Nat} {j:Nat} (h:j ∈ p):frees (j+1) p=frees j p:=by unfold frees;rw[Ba,List.filter_append];simp[h]
theorem TQ {p:List Nat} {j:Nat} (h:j ∉ p):frees (j+1) p=frees j p++[j]:=by unfold frees;rw[Ba,List.filter_append];simp[h]
theorem RG {p:List Nat} {t d:Nat} (ht:t<p.length):d ∈ p.take (t+1)↔d ∈ p.take t\/d=p[t]:=by
 rw[Ar,dw ht,ug]
 simp only[Option.toList,tq]
theorem QF {n:Nat} {a a' b b':Mt} {i j:Nat} (h1:∀ k,k<n->a i k=a' i k) (h2:∀ k,k<n->b k j=b' k j):mm n a b i j=mm n a' b' i j:=jF n fun k hk=>by rw[h1 k hk,h2 k hk]
theorem Gau.congr {N f:Nat} {n g n' g':Mt} (H:Gau N f n g) (h1:∀ i,i<N->∀ j,j<N->n' i j=n i j) (h2:∀ i,i<N->∀ j,j<f->g' i j=g i j):Gau N f n' g' :=
 ⟨fun i hi j hj=>by rw[h1 i hi j hj,h1 j hj i hi];exact H.sym i hi j hj,fun i hi j hj=>by rw[<-H.ng i hi j hj];exact QF (fun k hk=>h1 i hi k hk) (fun k hk=>h2 k hk j hj),
  by rw[(FU (C:=f) h2 f (ay _)).1];exact H.rank,by rw[(FU (C:=N) h1 N (ay _)).1];exact H.dim⟩
theorem NJ.congr {n:Nat} {a x a' x':Mt} (H:NJ n a x) (h1:∀ i,i<n->∀ j,j<n->a' i j=a i j) (h2:∀ i,i<n->∀ j,j<n->x' i j=x i j):NJ n a' x' :=
 ⟨fun i hi j hj=>by rw[<-H.r i hi j hj];exact QF (fun k hk=>h1 i hi k hk) (fun k hk=>h2 k hk j hj),fun i hi j hj=>by rw[<-H.l i hi j hj];exact QF (fun k hk=>h2 i hi k hk) (fun k hk=>h1 k hk j hj)⟩
def cdI (n:Int):Prop:=-1048576<=n/\n<=1048576
abbrev b0V:Type:=Int × Int × Unit
def cdP (p:b0V):Prop:=cdI p.1/\cdI p.2.1
def b0O (p:b0V):List Int:=[p.1,p.2.1,1]
noncomputable def c1S:Ctr:=⟨[b8Q],[.arr 3 tI],fun x=>True,fun x=>(b0O x.1,())⟩
theorem b3n:aI Tryz.prog 210 c1S:=by
 refine aO Lib.nil ⟨[2],[],[]⟩ Tryz.func210 rfl (by decide) (fun x=>[]) (fun x hp=>?_)
 obtain⟨p,u⟩:=x
 change b0V at p
 refine aY (True/\asT Int p.1::asT Int p.2.1::1::aG Int=b0O p/\True) (by kernel_rfl) ?_
 have hZ:(⟨false,0,[],[]⟩:aH)=bF:=rfl
 try simp only[aF,ak,ah]
 try dsimp only[aB,asT,aA,aG,Ty.den,Lf.den] at *
 try simp only[hZ,Int.toNat_natCast,aF,ak,ah,jo,jm,iq,dh]
 try simp only[cZ,cO,List.all_cons,List.all_nil,jr,gy,iw,jf,ni,ne_eq,au,bg,eu,ig,jh,qh,jy,ql,jo,jm,je,dn,List.length_cons,List.length_nil]
 rfl
def m33 (K:Nat) (f:MQ):Prop:=isM f 3 3/\szM f K
theorem m33.mono {K L:Nat} {f:MQ} (h:m33 K f) (hl:K<=L):m33 L f:=⟨h.1,fun i hi j hj=>jc (h.2 i hi j hj) hl⟩
theorem cdI.sz {n:Int} (h:cdI n):rsz (bV n)<=2:=by
 have h1:=MS n
 have h2:isz n<=1:=yG (by obtain⟨a,b⟩:=h;unfold BB;omega)
 exact jc h1 (by omega)
theorem m33.ok {K:Nat} {f:MQ} (h:m33 K f) (hK:K<=1000000):okM f/\szM f 1000000/\wdM f=3/\f.length=3:=⟨⟨by rw[h.1.len,h.1.wd];exact h.1,fun i hi j hj=>jc (h.2 i hi j hj) (by omega)⟩,fun i hi j hj=>jc (h.2 i hi j hj) (by omega),h.1.wd,h.1.len⟩
def c0U (p:b0V):List Rat:=(b0O p).map fun i=>bV i
theorem m33.tr {K:Nat} {f:MQ} (h:m33 K f):m33 K (trM f):=by
 unfold trM
 rw[h.1.wd,h.1.len]
 have e:isM (tab 3 3 (_root_.Go.Proofs.YtbkocjmmbkifjaaGreat.tr (ent f))) 3 3:=GL (by omega) (by omega) (by omega) (by omega)
 refine⟨e,fun i hi j hj=>?_⟩
 rw[e.len] at hi
 rw[e.wd] at hj
 rw[a3v hi hj]
 exact h.2 j (by rw[h.1.len];exact hj) i (by rw[h.1.wd];exact hi)
def b2S (f:MQ) (p:aX):Rat:=qL (c0U p.2.1) (mvL f (c0U p.1)) 3
def szL (l:LQ'):Prop:=l.length<=1000/\∀ q ∈ l,rsz q<=100000000
theorem RH {α:Type} {xs ys:List α} {i:Nat} {d:α} (hi:i<xs.length) (hy:i<ys.length) (h:xs.take i=ys.take i) (h2:xs.getD i d=ys.getD i d):xs.take (i+1)=ys.take (i+1):=by
 rw[Ar,Ar,h]
 rw[bn,dw hi,bn,dw hy] at h2
 rw[dw hi,dw hy]
 have h2:xs[i]=ys[i]:=h2
 rw[h2]
noncomputable def b9D:Ctr:=⟨[.list tQ,.list tQ],[tB],fun x=>szL x.1/\szL x.2.1,fun x=>(decide ((show LQ' from x.1)=(show LQ' from x.2.1)),())⟩
def LD (a:MQ):Prop:=a.length<=1000/\∀ r ∈ a,szL r
noncomputable def c1O:Ctr:=⟨[tM,tM],[tB],fun x=>LD x.1/\LD x.2.1,fun x=>(decide ((show MQ from x.1)=(show MQ from x.2.1)),())⟩
theorem YR {α:Type}:∀ {l:List α},l.length=3->∃ a b c,l=[a,b,c]
 | [a,b,c],_=>⟨a,b,c,rfl⟩
theorem m33.form {K:Nat} {f:MQ} (h:m33 K f):∃ a b c d e g i j k:Rat,f=[[a,b,c],[d,e,g],[i,j,k]]:=by
 have l1:=h.1.1
 have l2:=h.1.2.1
 obtain⟨r,s,t,rfl⟩:=YR l1
 obtain⟨a,b,c,rfl⟩:=YR (l2 r (by simp))
 obtain⟨d,e,g,rfl⟩:=YR (l2 s (by simp))
 obtain⟨i,j,k,rfl⟩:=YR (l2 t (by simp))
 exact⟨a,b,c,d,e,g,i,j,k,rfl⟩
theorem m33.flat {K:Nat} {f:MQ} (h:m33 K f):f.flatten.length=9/\∀ q ∈ f.flatten,rsz q<=K:=by
 obtain⟨a,b,c,d,e,g,i,j,k,rfl⟩:=h.form
 refine⟨rfl,fun q hq=>?_⟩
 have hq:q ∈ [a,b,c,d,e,g,i,j,k]:=hq
 have h2:∀ x y:Nat,x<3->y<3->rsz (ent [[a,b,c],[d,e,g],[i,j,k]] x y)<=K:=fun x y hx hy=>h.2 x hx y hy
 simp only[qp,Dt,or_false] at hq
 rcases hq with rfl|rfl|rfl|rfl|rfl|rfl|rfl|rfl|rfl
 ·exact h2 0 0 (by omega) (by omega)
 ·exact h2 0 1 (by omega) (by omega)
 ·exact h2 0 2 (by omega) (by omega)
 ·exact h2 1 0 (by omega) (by omega)
 ·exact h2 1 1 (by omega) (by omega)
 ·exact h2 1 2 (by omega) (by omega)
 ·exact h2 2 0 (by omega) (by omega)
 ·exact h2 2 1 (by omega) (by omega)
 ·exact h2 2 2 (by omega) (by omega)
theorem m33.rows {K:Nat} {f:MQ} (h:m33 K f):f.length=3/\∀ i,i<3->(f.getD i []).length=3/\∀ j,j<3->rsz (lv (f.getD i []) j)<=K:=⟨h.1.len,fun i hi=>⟨h.1.2.1 _ (fO (by rw[h.1.len];exact hi)),fun j hj=>h.2 i (by rw[h.1.len];exact hi) j (by rw[h.1.wd];exact hj)⟩⟩
theorem cdI.mul {a b:Int} (ha:cdI a) (hb:cdI b):(a*b).natAbs<=1099511627776:=by
 rw[Int.natAbs_mul]
 exact jc (xw (show a.natAbs<=1048576 by obtain⟨x,y⟩:=ha;omega) (show b.natAbs<=1048576 by obtain⟨x,y⟩:=hb;omega)) (by omega)
noncomputable def b9n:Ctr:=⟨[tM],[.list tQ],fun x=>(show MQ from x.1).length<=1000/\∀ r ∈ (show MQ from x.1),r.length<=1000,fun x=>((show MQ from x.1).flatten,())⟩
theorem ZW:aI Tryz.prog 119 b9n:=by
 refine aO Lib.nil ⟨[],[],[]⟩ Tryz.func119 rfl (by decide) (fun x=>[.inv {k:Nat // k<=(show MQ from x.1).length} (fun k=>[(8,.val tI (k.1:Int)),(3,.own 14 0),(14,.any)]) (fun k=>[(14,.row 47 tQ (((show MQ from x.1).take k.1).flatten) 0)]) (fun k=>(show MQ from x.1).length-k.1) ⟨0,by omega⟩ (fun _=>[])]) (fun x hp=>?_)
 obtain⟨f,u⟩:=x
 change List (List Rat) at f
 refine aY ((asT Int 0=0/\(True/\asT (List Rat) (aG Rat)=aG Rat)/\(asT (List Rat) (aG Rat)=aG Rat/\0=0/\asT Bool true=true)/\True)/\∀ (i:{ k:Nat // k<=List.length f }),asT Bool true=true/\ifB (decide (aB (aA i)<aB f.length)) ((0<=aB (aA i)/\aB (aA i)<aB f.length/\True)/\(List.length (List.flatten (List.take (aA i) f))+List.length (List.getD f (aB (aA i)).toNat (aG Rat))<=1000000000/\True)/\∃ (i':{ k:Nat // k<=List.length f }),List.length f-aA i'<List.length f-aA i/\IntKind.wrap IntKind.i64 (aB (aA i)+1)=aB (aA i')/\List.flatten (List.take (aA i) f)++List.getD f (aB (aA i)).toNat (aG Rat)=List.flatten (List.take (aA i') f)/\True) (True/\List.flatten (List.take (aA i) f)=List.flatten f/\True)) (by kernel_rfl) ?_
 have hZ:(⟨false,0,[],[]⟩:aH)=bF:=rfl
 try simp only[aF,ak,ah]
 try dsimp only[aB,asT,aA,aG,Ty.den,Lf.den] at *
 try simp only[hZ,Int.toNat_natCast,aF,ak,ah,jo,jm,iq,dh]
 try simp only[cZ,cO,List.all_cons,List.all_nil,jr,gy,iw,jf,ni,ne_eq,au,bg,eu,ig,jh,qh,jy,ql,jo,jm,je,dn,List.length_cons,List.length_nil]
 obtain⟨hl,hr⟩:f.length<=1000/\∀ r ∈ f,r.length<=1000:=hp
 have hf:∀ k,(f.take k).flatten.length<=1000000:=fun k=>by
  have h1:=a3A (K:=1000) (x:=f.take k) fun r h=>hr r (Bc h)
  have h2:(f.take k).length<=1000:=by rw[mg];omega
  omega
 exact fun i=>⟨fun h1=>⟨⟨by omega,h1⟩,by have:=hf i.1;have:(f.getD i.1 []).length<=1000:=dB hr (by omega);omega,⟨i.1+1,by omega⟩,by simp only;omega,by rw[aS (by omega) (by omega)];rfl,(a5s (by omega)).symm⟩,fun h1=>by rw[jv (by omega)]⟩
def jL (p:aX):List Int:=[p.2.1.1*p.1.1,p.2.1.1*p.1.2.1,p.2.1.1*1,p.2.1.2.1*p.1.1,p.2.1.2.1*p.1.2.1,p.2.1.2.1*1,1*p.1.1,1*p.1.2.1,1*1]
theorem a4u (p:aX) {k c:Nat} (hk:k<3) (hc:c<3):(jL p).getD (3*k+c) 0=(b0O p.2.1).getD k 0*(b0O p.1).getD c 0:=by
 have h1:k=0\/k=1\/k=2:=by omega
 have h2:c=0\/c=1\/c=2:=by omega
 rcases h1 with rfl|rfl|rfl<;>rcases h2 with rfl|rfl|rfl<;>rfl
theorem MO {p:aX} (h1:cdP p.1) (h2:cdP p.2.1):∀ n ∈ jL p,n.natAbs<=1099511627776:=fun n hn=>by
 have o:cdI 1:=⟨by omega,by omega⟩
 simp only[jL,qp,Dt,or_false] at hn
 rcases hn with rfl|rfl|rfl|rfl|rfl|rfl|rfl|rfl|rfl
 ·exact h2.1.mul h1.1
 ·exact h2.1.mul h1.2
 ·exact h2.1.mul o
 ·exact h2.2.mul h1.1
 ·exact h2.2.mul h1.2
 ·exact h2.2.mul o
 ·exact o.mul h1.1
 ·exact o.mul h1.2
 ·exact o.mul o
noncomputable def b9C:Ctr:=⟨[sZ],[.list tI],fun x=>cdP x.1.1/\cdP x.1.2.1,fun x=>(jL x.1,())⟩
theorem a1a:aI Tryz.prog 122 b9C:=by
 refine aO Lib.nil ⟨[],[],[]⟩ Tryz.func122 rfl (by decide) (fun x=>[.inv {k:Nat // k<=3} (fun k=>[(22,.val tI (k.1:Int)),(5,.own 38 0),(38,.any)]) (fun k=>[(38,.row 3 tI ((jL (show aX from x.1)).take (3*k.1)) 0)]) (fun k=>3-k.1) ⟨0,by omega⟩ (fun k=>[
  .inv {c:Nat // c<=3} (fun c=>[(25,.val tI (c.1:Int)),(5,.own 38 0),(38,.any)]) (fun c=>[(38,.row 3 tI ((jL (show aX from x.1)).take (3*k.1+c.1)) 0)]) (fun c=>3-c.1) ⟨0,by omega⟩ (fun _=>[])])]) (fun x hp=>?_)
 obtain⟨p,u⟩:=x
 change aX at p
 refine aY (let A₀:=(asT Int p.2.1.1::asT Int p.2.1.2.1::1::aG Int);let A₁:=(asT Int p.1.1::asT Int p.1.2.1::1::aG Int);(asT Int 0=0/\(True/\asT (List Int) (aG Int)=aG Int)/\(asT (List Int) (aG Int)=aG Int/\0=0/\asT Bool true=true)/\True)/\∀ (i:{ k:Nat // k<=3 }),asT Bool true=true/\ifB (decide (aB (aA i)<3)) ((asT Int 0=0/\List.take (3*aA i) (jL p)=List.take (3*aA i+0) (jL p)/\True)/\∀ (i_1:{ c:Nat // c<=3 }),let A₂:=(List.getD A₀ (aB (aA i)).toNat 0*List.getD A₁ (aB (aA i_1)).toNat 0);let aW:=(3*aA i+aA i_1);asT Bool true=true/\ifB (decide (aB (aA i_1)<3)) ((0<=aB (aA i)/\aB (aA i)<aB A₀.length/\0<=aB (aA i_1)/\aB (aA i_1)<aB A₁.length/\List.length (List.take aW (jL p))+List.length (IntKind.wrap IntKind.i64 A₂::aG Int)<=1000000000/\True)/\∃ (i':{ c:Nat // c<=3 }),3-aA i'<3-aA i_1/\IntKind.wrap IntKind.i64 (aB (aA i_1)+1)=aB (aA i')/\List.take aW (jL p)++IntKind.wrap IntKind.i64 A₂::aG Int=List.take (3*aA i+aA i') (jL p)/\True) (∃ (i':{ k:Nat // k<=3 }),3-aA i'<3-aA i/\IntKind.wrap IntKind.i64 (aB (aA i)+1)=aB (aA i')/\List.take aW (jL p)=List.take (3*aA i') (jL p)/\True)) (True/\List.take (3*aA i) (jL p)=jL p/\True)) (by kernel_rfl) ?_
 have hZ:(⟨false,0,[],[]⟩:aH)=bF:=rfl
 try simp only[aF,ak,ah]
 try dsimp only[aB,asT,aA,aG,Ty.den,Lf.den] at *
 try simp only[hZ,Int.toNat_natCast,aF,ak,ah,jo,jm,iq,dh]
 try simp only[cZ,cO,List.all_cons,List.all_nil,jr,gy,iw,jf,ni,ne_eq,au,bg,eu,ig,jh,qh,jy,ql,jo,jm,je,dn,List.length_cons,List.length_nil]
 obtain⟨h1,h2⟩:cdP p.1/\cdP p.2.1:=hp
 have hl:(jL p).length=9:=rfl
 refine fun i=>⟨fun g1=>⟨rfl,fun c=>⟨fun g2=>?_,fun g2=>⟨⟨i.1+1,by omega⟩,by simp only;omega,by rw[aS (by omega) (by omega)];rfl,?_⟩⟩⟩,fun g1=>?_⟩
 ·have hi:i.1<3:=by omega
  have hc:c.1<3:=by omega
  have hn:3*i.1+c.1<(jL p).length:=by rw[hl];omega
  have e:[p.2.1.1,p.2.1.2.1,1].getD i.1 0*[p.1.1,p.1.2.1,1].getD c.1 0=(jL p).getD (3*i.1+c.1) 0:=(a4u p hi hc).symm
  have hz:=dB (MO h1 h2) hn (d:=0)
  refine⟨⟨by omega,by omega,by omega,by omega,by rw[mg];omega⟩,⟨c.1+1,by omega⟩,by simp only;omega,by rw[aS (by omega) (by omega)];rfl,?_⟩
  rw[e,aS (by omega) (by omega)]
  show _=List.take (3*i.1+c.1+1) (jL p)
  rw[Ar,bn,dw hn];rfl
 ·show _=List.take (3*(i.1+1)) (jL p)
  rw[show 3*i.1+c.1=3*(i.1+1) by have:=c.2;omega]
 ·rw[jv (by rw[hl];omega)]
theorem VB:aI Tryz.prog 58 (cIQ dU (fun i=>(i:Rat))):=by
 refine aO (nil0.ad YL) ⟨[2],[],[]⟩ Tryz.func58 rfl (by decide) (fun x=>[]) (fun x hp=>?_)
 obtain⟨n,u⟩:=x
 change Int at n
 refine aY ((dU n/\True)/\True/\bV n=bV n/\True) (by kernel_rfl) ?_
 have hZ:(⟨false,0,[],[]⟩:aH)=bF:=rfl
 try simp only[aF,ak,ah]
 try dsimp only[aB,asT,aA,aG,Ty.den,Lf.den] at *
 try simp only[hZ,Int.toNat_natCast,aF,ak,ah,jo,jm,iq,dh]
 try simp only[cZ,cO,List.all_cons,List.all_nil,jr,gy,iw,jf,ni,ne_eq,au,bg,eu,ig,jh,qh,jy,ql,jo,jm,je,dn,List.length_cons,List.length_nil]
 exact hp
def a7p (x y:LQ'):Prop:=x.length=y.length/\x.length<=64/\∀ i,i<x.length->rsz (lv x i)<=20000/\rsz (lv y i)<=20000
theorem b1q {x y:LQ'} {A B:Nat} {k:Nat} (h:∀ i,i<k->rsz (lv x i)<=A/\rsz (lv y i)<=B):rsz (qL x y k)<=k*(A+B+1)+1 :=
 a2K (K:=A+B) (f:=fun i=>lv x i*lv y i) k (fun i hi=>by
  have ⟨a,b⟩:=h i hi
  have:=wG (lv x i) (lv y i);show rsz (lv x i*lv y i)<=_;omega)
theorem a7p.sz {x y:LQ'} (h:a7p x y) {k:Nat} (hk:k<=x.length):rsz (qL x y k)<=4000000:=by
 have h1:=b1q (x:=x) (y:=y) (A:=20000) (B:=20000) (k:=k) fun i hi=>h.2.2 i (by omega)
 have h2:=h.2.1
 have:k*20001<=64*20001:=xw (by omega) (by omega)
 omega
def fC (p:aX):List Rat:=(jL p).map fun i=>bV i
def b2T (f:MQ) (p:aX):Rat:=qL (fC p) f.flatten 9
theorem FV (p:aX):(fC p).length=9:=rfl
theorem YG (p:aX) {i:Nat} (hi:i<9):bV ((jL p).getD i 0)=(fC p).getD i 0:=by
 unfold fC
 rw[bn,bn,uf,dw (show i<(jL p).length from hi)];rfl
theorem a4v {p:aX} (h1:cdP p.1) (h2:cdP p.2.1):∀ q ∈ fC p,rsz q<=3:=fun q hq=>by
 obtain⟨n,hn,rfl⟩:=qm.mp hq
 have:=MO h1 h2 n hn
 exact jc (MS n) (Nat.add_le_add_right (yG (k:=2) (by unfold BB;omega)) 1)
theorem b2V {f:MQ} (hf:m33 12000 f) {p:aX} (h1:cdP p.1) (h2:cdP p.2.1):a7p (fC p) f.flatten:=⟨by rw[hf.flat.1,FV],by rw[FV];omega,fun i hi=>⟨jc (dB (a4v h1 h2) hi) (by omega),jc (dB hf.flat.2 (by rw[hf.flat.1];exact hi)) (by omega)⟩⟩
noncomputable def c1M:Ctr:=⟨[tM,sZ],[tQ],fun x=>m33 12000 x.1/\cdP x.2.1.1/\cdP x.2.1.2.1,fun x=>(b2T x.1 x.2.1,())⟩
theorem b2U:aI Tryz.prog 43 c1M:=by
 refine aO (((((nil0.ad a4p).ad b2M).ad VB).ad a1a).ad ZW) ⟨[4,5],[],[]⟩ Tryz.func43 rfl (by decide) (fun x=>[.inv {k:Nat // k<=9} (fun k=>[(12,.val tI (k.1:Int))]) (fun k=>[(4,.box [⟨tR,bF⟩]),(5,.box [⟨tQ,qL (fC (show aX from x.2.1)) (show MQ from x.1).flatten k.1⟩])]) (fun k=>9-k.1) ⟨0,by omega⟩ (fun _=>[])]) (fun x hp=>?_)
 obtain⟨f,p,u⟩:=x
 change List (List Rat) at f
 change aX at p
 refine aY (let A₁:=p.2.1;let A₂:=p.1.2.1;let aW:=A₁.2.1;let bW:=p.1.1;let A₀:=(asT Int A₁.1*asT Int bW::asT Int A₁.1*asT Int A₂::asT Int A₁.1*1::asT Int aW*asT Int bW::asT Int aW*asT Int A₂::asT Int aW*1::1*asT Int bW::1*asT Int A₂::1*1::aG Int);(dU 0/\True)/\((cdP p.1/\cdP A₁)/\True)/\(asT Int 0=0/\asT aH bF=bF/\bV 0=qL (fC p) (List.flatten f) 0/\True)/\∀ (i:{ k:Nat // k<=9 }),let eU:=(aB (aA i)).toNat;asT Bool true=true/\ifB (decide (aB (aA i)<aB A₀.length)) ((0<=aB (aA i)/\aB (aA i)<aB A₀.length/\True)/\(dU (List.getD A₀ eU 0)/\(List.length f<=1000/\∀ (r:List Rat),r ∈ f->List.length r<=1000)/\0<=aB (aA i)/\aB (aA i)<aB (List.flatten f).length/\s19 (bV (List.getD A₀ eU 0)) (List.getD (List.flatten f) eU 0)/\s19 (qL (fC p) (List.flatten f) (aA i)) (bV (List.getD A₀ eU 0)*List.getD (List.flatten f) eU 0)/\True)/\∃ (i':{ k:Nat // k<=9 }),9-aA i'<9-aA i/\IntKind.wrap IntKind.i64 (aB (aA i)+1)=aB (aA i')/\asT aH bF=bF/\qL (fC p) (List.flatten f) (aA i)+bV (List.getD A₀ eU 0)*List.getD (List.flatten f) eU 0=qL (fC p) (List.flatten f) (aA i')/\True) (True/\qL (fC p) (List.flatten f) (aA i)=b2T f p/\True)) (by kernel_rfl) ?_
 have hZ:(⟨false,0,[],[]⟩:aH)=bF:=rfl
 try simp only[aF,ak,ah]
 try dsimp only[aB,asT,aA,aG,Ty.den,Lf.den] at *
 try simp only[hZ,Int.toNat_natCast,aF,ak,ah,jo,jm,iq,dh]
 try simp only[cZ,cO,List.all_cons,List.all_nil,jr,gy,iw,jf,ni,ne_eq,au,bg,eu,ig,jh,qh,jy,ql,jo,jm,je,dn,List.length_cons,List.length_nil]
 obtain⟨hf,h1,h2⟩:m33 12000 f/\cdP p.1/\cdP p.2.1:=hp
 have hd:=b2V hf h1 h2
 have hl:=hf.flat.1
 have hn:∀ n ∈ jL p,dU n:=fun n h=>by have:=MO h1 h2 n h;exact⟨by omega,by omega⟩
 rw[show [p.2.1.1*p.1.1,p.2.1.1*p.1.2.1,p.2.1.1*1,p.2.1.2.1*p.1.1,p.2.1.2.1*p.1.2.1,p.2.1.2.1*1,1*p.1.1,1*p.1.2.1,1*1]=jL p from rfl]
 refine⟨⟨by omega,by omega⟩,⟨h1,h2⟩,rfl,fun i=>⟨fun h=>?_,fun h=>?_⟩⟩
 ·have hi:i.1<9:=by omega
  have b1:rsz ((fC p).getD i.1 0)<=3:=dB (a4v h1 h2) hi
  have b2:rsz (f.flatten.getD i.1 0)<=12000:=dB hf.flat.2 (by rw[hl];exact hi)
  have b3:=hd.sz (k:=i.1) (by rw[FV];omega)
  have b4:=wG ((fC p).getD i.1 0) (f.flatten.getD i.1 0)
  have w0:dU ((jL p).getD i.1 0):=dB hn hi
  have hr:∀ r ∈ f,r.length<=1000:=fun r hr=>by have:=hf.1.2.1 r hr;omega
  have h3:=hf.1.len
  rw[YG p hi,hl]
  exact⟨⟨by omega,h⟩,⟨w0,⟨by omega,hr⟩,by omega,by omega,⟨by omega,by omega⟩,⟨by omega,by omega⟩⟩,⟨i.1+1,by omega⟩,by simp only;omega,by rw[aS (by omega) (by omega)];rfl,rfl⟩
 ·rw[show i.1=9 by have:=i.2;omega];rfl
set_option maxHeartbeats 4000000
theorem ES (a b:Int):bV (a*b)=bV a*bV b:=xq a b
theorem a1e {K:Nat} {f:MQ} (hf:m33 K f) (p:aX):b2T f p=b2S f p:=by
 obtain⟨a,b,c,d,e,g,i,j,k,rfl⟩:=hf.form
 obtain⟨⟨x,y,_⟩,⟨u,v,_⟩,_⟩:=p
 change 0+bV (u*x)*a+bV (u*y)*b+bV (u*1)*c+bV (v*x)*d+bV (v*y)*e+bV (v*1)*g+bV (1*x)*i+bV (1*y)*j+bV (1*1)*k=0+bV u*(0+a*bV x+b*bV y+c*bV 1)+bV v*(0+d*bV x+e*bV y+g*bV 1)+bV 1*(0+i*bV x+j*bV y+k*bV 1)
 simp only[ES]
 have h1:bV 1=1:=rfl
 rw[h1]
 grind
theorem LJ {n:Int} (h:lN n=false):cdI n:=by
 unfold lN at h
 rw[dn,ah,ah] at h
 exact⟨by omega,by omega⟩
theorem a2u {l:List aX} (h:qH l=0):∀ p ∈ l,cdP p.1/\cdP p.2.1:=fun p hp=>by
 have h1:l.any CQ=false:=by
  unfold qH at h
  cases e:l.any CQ
  ·rfl
  ·rw[e] at h;exact absurd h (by decide)
 have h2:CQ p=false:=by
  have:=Ec.mp h1 p hp
  simpa using this
 unfold CQ at h2
 simp only[List.any_cons,List.any_nil,Bool.or_false,dn] at h2
 exact⟨⟨LJ h2.1,LJ h2.2.1⟩,LJ h2.2.2.1,LJ h2.2.2.2⟩
end Go.Proofs.YtbkocjmmbkifjaaGreat
