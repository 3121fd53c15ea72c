/-
  Lemmas for the theorem vinliers_holds, part 21 of 32.
-/
import Derived.Test.YtbkocjmmbkifjaaGreatQi20
namespace Go.Proofs.YtbkocjmmbkifjaaGreat
open Go Go.RowKit
set_option linter.unusedSimpArgs false
set_option linter.unusedVariables false
set_option maxRecDepth 20000
theorem dM {G:Prop} (V:Prop) (h:V=G) (v:V):G:=h ▸ v
abbrev asT (α:Type) (x:α):α:=x
abbrev aP (α:Type):List α:=[]
abbrev aB (n:Nat):Int:=(n:Int)
abbrev fK (n:Int):Rat:=(n:Rat)
abbrev aA.{u} {α:Sort u} {p:α->Prop} (x:Subtype p):α:=x.1
abbrev tB:Ty:=.bool
abbrev tM:Ty:=.list (.list tQ)
noncomputable def b8K (pre:Rat->Rat->Prop) [hd:∀ x y,Dc (pre x y)] (g:Rat->Rat->Bool):Ctr:={ args:=[tQ,tQ],res:=[tB],pre:=fun x=>pre x.1 x.2.1,fn:=fun x=>(g x.1 x.2.1,()),dec:=fun x=>hd x.1 x.2.1 }
theorem b0I {f:FuncId} {pre:Rat->Rat->Prop} [∀ x y,Dc (pre x y)] {g:Rat->Rat->Bool} (h:∀ (v u:Value) (x y:Rat) (w:World),RQ w v x->RQ w u y->pre x y->Calls Tryz.prog f #[v,u] w (GB (g x y) w)):aT Tryz.prog f (b8K pre g):=by
 intro F w vs x hF hvs hp
 obtain⟨v,vs',rfl,h1,u,vs'',rfl,h2,h3⟩:=hvs
 have h3:vs''=[]:=h3
 subst h3
 refine(h v u x.1 x.2.1 w (uF h1) (uF h2) hp).mono ?_
 rintro e w' ⟨rfl,hb⟩
 exact⟨_,rfl,a3b _,hb⟩
noncomputable def b0J (pre:Rat->Rat->Prop) [hd:∀ x y,Dc (pre x y)] (g:Rat->Rat->Int):Ctr:={ args:=[tQ,tQ],res:=[tI],pre:=fun x=>pre x.1 x.2.1,fn:=fun x=>(g x.1 x.2.1,()),dec:=fun x=>hd x.1 x.2.1 }
theorem XA {f:FuncId} {pre:Rat->Rat->Prop} [∀ x y,Dc (pre x y)] {g:Rat->Rat->Int} (h:∀ (v u:Value) (x y:Rat) (w:World),RQ w v x->RQ w u y->pre x y->Calls Tryz.prog f #[v,u] w (fun e w'=>e=.returned (.int .i64 (g x y))/\Below w.heap.size w w')):aT Tryz.prog f (b0J pre g):=by
 intro F w vs x hF hvs hp
 obtain⟨v,vs',rfl,h1,u,vs'',rfl,h2,h3⟩:=hvs
 have h3:vs''=[]:=h3
 subst h3
 refine(h v u x.1 x.2.1 w (uF h1) (uF h2) hp).mono ?_
 rintro e w' ⟨rfl,hb⟩
 exact⟨_,rfl,uI _,hb⟩
noncomputable def cQI (pre:Rat->Prop) [hd:∀ x,Dc (pre x)] (g:Rat->Int):Ctr:={ args:=[tQ],res:=[tI],pre:=fun x=>pre x.1,fn:=fun x=>(g x.1,()),dec:=fun x=>hd x.1 }
theorem a1V {f:FuncId} {pre:Rat->Prop} [∀ x,Dc (pre x)] {g:Rat->Int} (h:∀ (v:Value) (x:Rat) (w:World),RQ w v x->pre x->Calls Tryz.prog f #[v] w (fun e w'=>e=.returned (.int .i64 (g x))/\Below w.heap.size w w')):aT Tryz.prog f (cQI pre g):=by
 intro F w vs x hF hvs hp
 obtain⟨v,vs',rfl,h1,h3⟩:=hvs
 have h3:vs'=[]:=h3
 subst h3
 refine(h v x.1 w (uF h1) hp).mono ?_
 rintro e w' ⟨rfl,hb⟩
 exact⟨_,rfl,uI _,hb⟩
abbrev gX (i:Int):Prop:=-9223372036854775808<=i/\i<=9223372036854775807
def b9J (x:Int):Decidable (gX x):=inferInstance
def b8b (x y:Int):Decidable (gX x/\gX y/\y≠0):=inferInstance
noncomputable def b2N:Ctr:={ args:=[tI,tI],res:=[tQ,tI],pre:=fun x=>gX x.1/\gX x.2.1/\(show Int from x.2.1)≠0,fn:=fun x=>(Rat.divInt x.1 x.2.1,(0:Int),()),dec:=fun x=>⟨b8b x.1 x.2.1⟩ }
theorem a6R {f:FuncId} (h:∀ (i k:Int) (w:World),-9223372036854775808<=i->i<=9223372036854775807->-9223372036854775808<=k->k<=9223372036854775807->k≠0->Calls Tryz.prog f #[.int .i64 i,.int .i64 k] w (GQC (Rat.divInt i k) 0 w)):aT Tryz.prog f b2N:=by
 intro F w vs x hF hvs hp
 obtain⟨v,vs',rfl,h1,u,vs'',rfl,h2,h3⟩:=hvs
 have h3:vs''=[]:=h3
 subst h3
 rw[a0P h1,a0P h2]
 refine(h _ _ w hp.1.1 hp.1.2 hp.2.1.1 hp.2.1.2 hp.2.2).mono ?_
 rintro e w' ⟨r,rfl,hr,hb⟩
 exact⟨_,rfl,⟨[_,_],rfl,_,_,rfl,VY hr,_,_,rfl,uI _,rfl⟩,hb⟩
def cZ:aF:=⟨false,0,[],[]⟩
abbrev tR:Ty:=.lf .iZ
abbrev tMR:Ty:=.list (.list tR)
theorem b0p {F:Nat->Prop} {w:World} {v:Value} {x:Rat} (h:RQ w v x):iR F w tR v (kL x):=by
 obtain⟨b,p,c,b',p',c',rfl,r1,r2⟩:=a1k h
 exact⟨_,rfl,b,p,c,b',p',c',rfl,h.raw,r1,r2⟩
theorem b0q {F:Nat->Prop} {w:World}:iR F w tR (.agg #[.bool false,.slice none 0 0,.bool false,.slice none 0 0]) cZ :=
 ⟨[.bool false,.slice none 0 0,.bool false,.slice none 0 0],rfl,xI (.lf .iZ) _ rfl⟩
noncomputable def cVal (K:Nat):Ctr:=⟨[tR],[tB],fun x=>(show aF from x.1).n<=K/\(show aF from x.1).m<=K,fun x=>((show aF from x.1).ok,())⟩
theorem b9D {F:Nat->Prop} {w:World} {v:Value} {x:aF} (h:iR F w tR v x):fH w v x.ok x.x/\∀ K,x.n<=K->x.m<=K->Qn v K:=by
 obtain⟨cs,rfl,b,p,c,b',p',c',rfl,h2,_,_⟩:=h
 exact⟨h2,fun K h1 h2=>⟨b,p,_,c,b',p',_,c',rfl,h1,h2⟩⟩
theorem XB {f:FuncId} {K:Nat} (h:∀ (v:Value) (ok:Bool) (q:Rat) (w:World),fH w v ok q->Qn v K->Calls Tryz.prog f #[v] w (fun e w'=>e=.returned (.bool ok)/\Below w.heap.size w w')):aT Tryz.prog f (cVal K):=by
 intro F w vs x hF hvs hp
 obtain⟨v,vs',rfl,h1,h3⟩:=hvs
 have h3:vs'=[]:=h3
 subst h3
 obtain⟨h4,h5⟩:=b9D h1
 refine(h v _ _ w h4 (h5 K hp.1 hp.2)).mono ?_
 rintro e w' ⟨rfl,hb⟩
 exact⟨_,rfl,a3b _,hb⟩
def SE (e:Int) (x y:Rat):aF × Int × Unit:=if y=0 then (cZ,e,()) else (kL (x / y),(0:Int),())
noncomputable def a0h (K:Nat) (e:Int):Ctr:=⟨[tQ,tQ],[tR,tI],fun x=>rsz x.1<=K/\rsz x.2.1<=K,fun x=>SE e x.1 x.2.1⟩
theorem a0i {f:FuncId} {K:Nat} {c:Int} (h:∀ (v u:Value) (x y:Rat) (w:World),RQ w v x->RQ w u y->rsz x<=K->rsz y<=K->y≠0->Calls Tryz.prog f #[v,u] w (GQC (x / y) 0 w)) (h0:∀ (v u:Value) (x y:Rat) (w:World),RQ w v x->RQ w u y->rsz x<=K->rsz y<=K->y=0->Calls Tryz.prog f #[v,u] w (b0x c w)):aT Tryz.prog f (a0h K c):=by
 intro F w vs x hF hvs hp
 obtain⟨v,vs',rfl,h1,u,vs'',rfl,h2,h3⟩:=hvs
 have h3:vs''=[]:=h3
 subst h3
 by_cases hy:(show Rat from x.2.1)=0
 ·refine(h0 v u x.1 x.2.1 w (uF h1) (uF h2) hp.1 hp.2 hy).mono ?_
  rintro e w' ⟨rfl,hb⟩
  refine⟨_,rfl,?_,hb⟩
  rw[show (a0h K c).fn x=(cZ,c,()) from jq hy]
  exact⟨[_,_],rfl,_,_,rfl,b0q,_,_,rfl,uI _,rfl⟩
 ·refine(h v u x.1 x.2.1 w (uF h1) (uF h2) hp.1 hp.2 hy).mono ?_
  rintro e w' ⟨r,rfl,hr,hb⟩
  refine⟨_,rfl,?_,hb⟩
  rw[show (a0h K c).fn x=(kL ((show Rat from x.1) / (show Rat from x.2.1)),(0:Int),()) from jk hy]
  exact⟨[_,_],rfl,_,_,rfl,b0p hr,_,_,rfl,uI _,rfl⟩
abbrev s4 (x:Rat):Prop:=rsz x<=400000000
abbrev s44 (x y:Rat):Prop:=rsz x<=400000000/\rsz y<=400000000
abbrev s19 (x y:Rat):Prop:=rsz x<=190000000/\rsz y<=190000000
abbrev tZ:Ty:=.lf .big
theorem pO {F:Nat->Prop} {w:World} {v:Value} {x:Int} (h:iR F w tZ v x):bW w v x:=by
 obtain⟨cs,rfl,h2⟩:=h
 exact h2
theorem VX {F:Nat->Prop} {w:World} {v:Value} {x:Int} (h:bW w v x):iR F w tZ v x:=by
 obtain⟨b,p,c,rfl,_⟩:=a3t h
 exact⟨_,rfl,h⟩
def cZ2 (g:Int->Int->Int):Ctr:=⟨[tZ,tZ],[tZ],fun x=>isz x.1<=1000000000/\isz x.2.1<=1000000000,fun x=>(g x.1 x.2.1,())⟩
theorem XC {f:FuncId} {g:Int->Int->Int} (h:∀ (v u:Value) (x y:Int) (w:World),Raw w v x->Raw w u y->isz x<=1000000000->isz y<=1000000000->Calls Tryz.prog f #[v,u] w (lU (g x y) w)):aT Tryz.prog f (cZ2 g):=by
 intro F w vs x hF hvs hp
 obtain⟨v,vs',rfl,h1,u,vs'',rfl,h2,h3⟩:=hvs
 have h3:vs''=[]:=h3
 subst h3
 refine(h v u x.1 x.2.1 w (pO h1).raw (pO h2).raw hp.1 hp.2).mono ?_
 rintro e w' ⟨r,rfl,hr,hb⟩
 exact⟨r,rfl,VX hr,hb⟩
def cZ1 (g:Int->Int):Ctr:=⟨[tZ],[tZ],fun x=>isz x.1<=1000000000,fun x=>(g x.1,())⟩
theorem b3J {f:FuncId} {g:Int->Int} (h:∀ (v:Value) (x:Int) (w:World),Raw w v x->isz x<=1000000000->Calls Tryz.prog f #[v] w (lU (g x) w)):aT Tryz.prog f (cZ1 g):=by
 intro F w vs x hF hvs hp
 obtain⟨v,vs',rfl,h1,h3⟩:=hvs
 have h3:vs'=[]:=h3
 subst h3
 refine(h v x.1 w (pO h1).raw hp).mono ?_
 rintro e w' ⟨r,rfl,hr,hb⟩
 exact⟨r,rfl,VX hr,hb⟩
def cIZ:Ctr:={ args:=[tI],res:=[tZ],pre:=fun x=>gX x.1,fn:=fun x=>(x.1,()),dec:=fun x=>⟨b9J x.1⟩ }
theorem b3H {f:FuncId} (h:∀ (x:Int) (w:World),-9223372036854775808<=x->x<=9223372036854775807->Calls Tryz.prog f #[.int .i64 x] w (lU x w)):aT Tryz.prog f cIZ:=by
 intro F w vs x hF hvs hp
 obtain⟨v,vs',rfl,h1,h3⟩:=hvs
 have h3:vs'=[]:=h3
 subst h3
 rw[a0P h1]
 refine(h x.1 w hp.1 hp.2).mono ?_
 rintro e w' ⟨r,rfl,hr,hb⟩
 exact⟨r,rfl,VX hr,hb⟩
def cZI (g:Int->Int):Ctr:=⟨[tZ],[tI],fun x=>True,fun x=>(g x.1,())⟩
theorem b3K {f:FuncId} {g:Int->Int} (h:∀ (v:Value) (x:Int) (w:World),Raw w v x->Calls Tryz.prog f #[v] w (fun e w'=>e=.returned (.int .i64 (g x))/\Below w.heap.size w w')):aT Tryz.prog f (cZI g):=by
 intro F w vs x hF hvs hp
 obtain⟨v,vs',rfl,h1,h3⟩:=hvs
 have h3:vs'=[]:=h3
 subst h3
 refine(h v x.1 w (pO h1).raw).mono ?_
 rintro e w' ⟨rfl,hb⟩
 exact⟨_,rfl,uI _,hb⟩
def a6T:Ctr:=⟨[tZ],[tI,tB],fun x=>True,fun x=>(mF x.1,mD x.1,())⟩
theorem a5j {f:FuncId} (h:∀ (v:Value) (x:Int) (w:World),Raw w v x->Calls Tryz.prog f #[v] w (fun e w'=>e=.returned (.tuple #[.int .i64 (mF x),.bool (mD x)])/\Below w.heap.size w w')):aT Tryz.prog f a6T:=by
 intro F w vs x hF hvs hp
 obtain⟨v,vs',rfl,h1,h3⟩:=hvs
 have h3:vs'=[]:=h3
 subst h3
 refine(h v x.1 w (pO h1).raw).mono ?_
 rintro e w' ⟨rfl,hb⟩
 exact⟨_,rfl,⟨[_,_],rfl,_,_,rfl,uI _,_,_,rfl,a3b _,rfl⟩,hb⟩
def cDiv:Ctr:=⟨[tZ,tZ],[tZ,tZ,tI],fun x=>isz x.1<=1000000000/\isz x.2.1<=1000000000/\(show Int from x.2.1)≠0,fun x=>(Int.fdiv x.1 x.2.1,Int.fmod x.1 x.2.1,(0:Int),())⟩
theorem b0F {f:FuncId} (h:∀ (v u:Value) (x y:Int) (w:World),Raw w v x->Raw w u y->isz x<=1000000000->isz y<=1000000000->y≠0->Calls Tryz.prog f #[v,u] w (RV (x.fdiv y) (x.fmod y) w)):aT Tryz.prog f cDiv:=by
 intro F w vs x hF hvs hp
 obtain⟨v,vs',rfl,h1,u,vs'',rfl,h2,h3⟩:=hvs
 have h3:vs''=[]:=h3
 subst h3
 refine(h v u x.1 x.2.1 w (pO h1).raw (pO h2).raw hp.1 hp.2.1 hp.2.2).mono ?_
 rintro e w' ⟨v1,v2,rfl,h1,h2,hb⟩
 exact⟨_,rfl,⟨[_,_,_],rfl,_,_,rfl,VX h1,_,_,rfl,VX h2,_,_,rfl,uI _,rfl⟩,hb⟩
def b8O (K:Nat) (g:Int->Int):Ctr:=⟨[tZ],[tI],fun x=>isz x.1<=K,fun x=>(g x.1,())⟩
theorem b0M {f:FuncId} {K:Nat} {g:Int->Int} (h:∀ (v:Value) (x:Int) (w:World),Raw w v x->isz x<=K->Calls Tryz.prog f #[v] w (fun e w'=>e=.returned (.int .i64 (g x))/\Below w.heap.size w w')):aT Tryz.prog f (b8O K g):=by
 intro F w vs x hF hvs hp
 obtain⟨v,vs',rfl,h1,h3⟩:=hvs
 have h3:vs'=[]:=h3
 subst h3
 refine(h v x.1 w (pO h1).raw hp).mono ?_
 rintro e w' ⟨rfl,hb⟩
 exact⟨_,rfl,uI _,hb⟩
def newT (e x y:Int):aF × Int × Unit:=if y=0 then (cZ,e,()) else (kL (Rat.divInt x y),(0:Int),())
def cNew (K:Nat) (e:Int):Ctr:=⟨[tZ,tZ],[tR,tI],fun x=>isz x.1<=K/\isz x.2.1<=K,fun x=>newT e x.1 x.2.1⟩
theorem b0H {f:FuncId} {K:Nat} {c:Int} (h:∀ (v u:Value) (x y:Int) (w:World),bW w v x->bW w u y->isz x<=K->isz y<=K->y≠0->Calls Tryz.prog f #[v,u] w (GQC (Rat.divInt x y) 0 w)) (h0:∀ (v u:Value) (x y:Int) (w:World),bW w v x->bW w u y->y=0->Calls Tryz.prog f #[v,u] w (b0x c w)):aT Tryz.prog f (cNew K c):=by
 intro F w vs x hF hvs hp
 obtain⟨v,vs',rfl,h1,u,vs'',rfl,h2,h3⟩:=hvs
 have h3:vs''=[]:=h3
 subst h3
 by_cases hy:(show Int from x.2.1)=0
 ·refine(h0 v u x.1 x.2.1 w (pO h1) (pO h2) hy).mono ?_
  rintro e w' ⟨rfl,hb⟩
  refine⟨_,rfl,?_,hb⟩
  rw[show (cNew K c).fn x=(cZ,c,()) from jq hy]
  exact⟨[_,_],rfl,_,_,rfl,b0q,_,_,rfl,uI _,rfl⟩
 ·refine(h v u x.1 x.2.1 w (pO h1) (pO h2) hp.1 hp.2 hy).mono ?_
  rintro e w' ⟨r,rfl,hr,hb⟩
  refine⟨_,rfl,?_,hb⟩
  rw[show (cNew K c).fn x=(kL (Rat.divInt x.1 x.2.1),(0:Int),()) from jk hy]
  exact⟨[_,_],rfl,_,_,rfl,b0p hr,_,_,rfl,uI _,rfl⟩
def b8P (g:Int->Int->Int):Ctr:=⟨[tZ,tZ],[tI],fun x=>True,fun x=>(g x.1 x.2.1,())⟩
theorem b0N {f:FuncId} {g:Int->Int->Int} (h:∀ (v u:Value) (x y:Int) (w:World),Raw w v x->Raw w u y->Calls Tryz.prog f #[v,u] w (fun e w'=>e=.returned (.int .i64 (g x y))/\Below w.heap.size w w')):aT Tryz.prog f (b8P g):=by
 intro F w vs x hF hvs hp
 obtain⟨v,vs',rfl,h1,u,vs'',rfl,h2,h3⟩:=hvs
 have h3:vs''=[]:=h3
 subst h3
 refine(h v u x.1 x.2.1 w (pO h1).raw (pO h2).raw).mono ?_
 rintro e w' ⟨rfl,hb⟩
 exact⟨_,rfl,uI _,hb⟩
set_option maxRecDepth 100000
set_option maxHeartbeats 4000000
theorem Qn.up {v:Value} {k m:Nat} (h:Qn v k) (hk:k<=m):Qn v m:=by
 obtain⟨b,p,n,c,b',p',n',c',e,h1,h2⟩:=h
 exact⟨b,p,n,c,b',p',n',c',e,by omega,by omega⟩
theorem wH (x y:Rat):(x.den:Int)*y.den≠0:=by
 have:=kK x;have:=kK y
 exact Int.ne_of_gt (Int.mul_pos (by assumption) (by assumption))
theorem ZX (v u:Value) (o1 o2:Bool) (x y:Rat) (w:World) (h1:fH w v o1 x) (h2:fH w u o2 y) (n1:Qn v 400000000) (n2:Qn u 400000000) :
  Calls Tryz.prog 173 #[v,u] w (GQ (x+y) w):=by
 obtain⟨b,p,n,c,d,o,m,e,rfl⟩:=h1.form
 obtain⟨f,i,j,k,g,r,t,a,rfl⟩:=h2.form
 have hl:=h1.jK n1 (by omega)
 have hl2:=h2.jK n2 (by omega)
 have m1:=n1.up (show 400000000<=1000000000 by omega)
 have m2:=n2.up (show 400000000<=1000000000 by omega)
 have b1:=dO x
 have b2:=dI x
 have b3:=dO y
 have b4:=dI y
 have c1:=dK x.num y.den
 have c2:=dK y.num x.den
 have c3:=wM (x.num*y.den) (y.num*x.den)
 have c4:=dK x.den y.den
 have HX:=bn (YT x y)
 have hd0:=wH x y
 have aZ:Below w.heap.size w w:=bg _ _
 go_enter Tryz.func173,Tryz.ntmps173
 go_wp2_with fail
 obtain⟨hA1,y0,z0,k1⟩:=bx3 w rfl [.bool b,.slice p n c,.bool d,.slice o m e] 47 [.bool f,.slice i j k,.bool g,.slice r t a] 47 [.bool false,.slice none 0 0,.bool false,.slice none 0 0] 47
 obtain⟨q2,a3,s2,e3,u2,h3,y2,j3⟩:=y0.drew.cf4
 obtain⟨l3,x3,o3,z3,r3,d4,t3,f4⟩:=z0.drew.cf4
 have tk1:True:=trivial
 have tk2:True:=trivial
 go_region_with
  (first
   | (((have:=tk1);clear tk1;have l1:=(h1.below hA1).drew;go_at_call 178;(with_reducible refine(gY _ _ (x) _ l1 m1).mono ?_);rintro e w1 ⟨v1,rfl,hi1,hb1⟩;obtain⟨g1,p1,n1,c1,h1,o1,m1,e1,rfl⟩:=hi1.form;have dA:=(z0.drew.to hb1);obtain⟨m3,y3,q3,a4,s3,e4,u3,h4⟩:=dA.cf4;have bT:=(y0.drew.to hb1);obtain⟨r2,d3,t2,f3,x2,i3,z2,k3⟩:=bT.cf4))
   | (((have:=tk2);clear tk2;have XQ:=((h2.below hA1).drew.below hb1);have q1:=XQ;go_at_call 178;(with_reducible refine(gY _ _ (y) _ q1 m2).mono ?_);rintro e w2 ⟨v2,rfl,hi2,hb2⟩;obtain⟨g2,p2,n2,c2,h2,o2,m2,e2,rfl⟩:=hi2.form;have bM:=(bT.to hb2);obtain⟨a0,e0,b0,f0,c0,g0,d0,h0⟩:=bM.cf4;have bJ:=(dA.to hb2);obtain⟨i0,m0,j0,n0,k0,o0,l0,p0⟩:=bJ.cf4)))
 all_goals
  go_wp2_with fail
  have jU:=((k1.drew.to hb1).to hb2)
  have WO:=(aK.mk (((bM.sN (.bool g1) (.slice p1 n1 c1) (.bool h1) (.slice o1 m1 e1)).dS (b:=w.heap.size+1) (by omega) (.bool g2) (.slice p2 n2 c2) (.bool h2) (.slice o2 m2 e2)).drew).bs4 (aK.mk (((bJ.dS (b:=w.heap.size) (by omega) (.bool g1) (.slice p1 n1 c1) (.bool h1) (.slice o1 m1 e1)).sN (.bool g2) (.slice p2 n2 c2) (.bool h2) (.slice o2 m2 e2)).drew).bs4 (BN.of (((jU.dS (b:=w.heap.size) (by omega) (.bool g1) (.slice p1 n1 c1) (.bool h1) (.slice o1 m1 e1)).dS (b:=w.heap.size+1) (by omega) (.bool g2) (.slice p2 n2 c2) (.bool h2) (.slice o2 m2 e2)).drew))))
  have i1:dB (w.heap.size+1+1) (aK (BS4 w.heap.size (.bool g1) (.slice p1 n1 c1) (.bool h1) (.slice o1 m1 e1)) (aK (BS4 (w.heap.size+1) (.bool g2) (.slice p2 n2 c2) (.bool h2) (.slice o2 m2 e2)) (BN (w.heap.size+1+1)))):=(aK.hc (BS4.hc (by omega)) (aK.hc (BS4.hc (by omega)) BN.hc))
  have tk3:True:=trivial
  have tk4:True:=trivial
  have tk5:True:=trivial
  have tk6:True:=trivial
  have tk7:True:=trivial
  go_region_held3 (aK (BS4 w.heap.size (.bool g1) (.slice p1 n1 c1) (.bool h1) (.slice o1 m1 e1)) (aK (BS4 (w.heap.size+1) (.bool g2) (.slice p2 n2 c2) (.bool h2) (.slice o2 m2 e2)) (BN (w.heap.size+1+1)))) (first|with_reducible exact WO|with_reducible exact fG.go (aK.hk BS4.hk (aK.hk BS4.hk BN.hk)) (by assumption) (by assumption)|with_reducible exact dB.go4 i1 (by assumption)|(simp;done))
   (first
    | (((have:=tk3);clear tk3;have a1:=(hi1.below hb2);have r1:=((a1.aU bM rfl rfl rfl rfl (.bool g1) (.slice p1 n1 c1) (.bool h1) (.slice o1 m1 e1)).aU (bJ.dS (b:=w.heap.size) (by omega) (.bool g1) (.slice p1 n1 c1) (.bool h1) (.slice o1 m1 e1)) rfl rfl rfl rfl (.bool g2) (.slice p2 n2 c2) (.bool h2) (.slice o2 m2 e2)).drew.num.raw;have s1:=((hi2.aU bM rfl rfl rfl rfl (.bool g1) (.slice p1 n1 c1) (.bool h1) (.slice o1 m1 e1)).aU (bJ.dS (b:=w.heap.size) (by omega) (.bool g1) (.slice p1 n1 c1) (.bool h1) (.slice o1 m1 e1)) rfl rfl rfl rfl (.bool g2) (.slice p2 n2 c2) (.bool h2) (.slice o2 m2 e2)).drew.den.raw;go_at_call 177;(with_reducible refine(mul_any _ _ (((x)).num) ((((y)).den:Int)) _ r1 s1 (by omega) (by omega)).mono ?_);rintro e w3 ⟨v3,rfl,hi3,hb3⟩;obtain⟨g3,p3,n3,c3,rfl⟩:=hi3.form))
    | (((have:=tk4);clear tk4;have f1:=(((hi2.aU bM rfl rfl rfl rfl (.bool g1) (.slice p1 n1 c1) (.bool h1) (.slice o1 m1 e1)).aU (bJ.dS (b:=w.heap.size) (by omega) (.bool g1) (.slice p1 n1 c1) (.bool h1) (.slice o1 m1 e1)) rfl rfl rfl rfl (.bool g2) (.slice p2 n2 c2) (.bool h2) (.slice o2 m2 e2)).drew.below hb3);have t1:=f1.num.raw;have d1:=(((a1.aU bM rfl rfl rfl rfl (.bool g1) (.slice p1 n1 c1) (.bool h1) (.slice o1 m1 e1)).aU (bJ.dS (b:=w.heap.size) (by omega) (.bool g1) (.slice p1 n1 c1) (.bool h1) (.slice o1 m1 e1)) rfl rfl rfl rfl (.bool g2) (.slice p2 n2 c2) (.bool h2) (.slice o2 m2 e2)).drew.below hb3);have u1:=d1.den.raw;go_at_call 177;(with_reducible refine(mul_any _ _ (((y)).num) ((((x)).den:Int)) _ t1 u1 (by omega) (by omega)).mono ?_);rintro e w4 ⟨v4,rfl,hi4,hb4⟩;obtain⟨g4,p4,n4,c4,rfl⟩:=hi4.form))
    | (((have:=tk5);clear tk5;have k2:=(hi3.below hb4);have x1:=k2.raw;have y1:=hi4.raw;go_at_call 176;(with_reducible refine(add_any _ _ ((((x)).num)*((((y)).den:Int))) ((((y)).num)*((((x)).den:Int))) _ x1 y1 (by omega) (by omega)).mono ?_);rintro e w5 ⟨v5,rfl,hi5,hb5⟩;obtain⟨g5,p5,n5,c5,rfl⟩:=hi5.form))
    | (((have:=tk6);clear tk6;have i2:=((d1.below hb4).below hb5);have z1:=i2.den.raw;have j2:=((f1.below hb4).below hb5);have a2:=j2.den.raw;go_at_call 177;(with_reducible refine(mul_any _ _ ((((x)).den:Int)) ((((y)).den:Int)) _ z1 a2 (by omega) (by omega)).mono ?_);rintro e w6 ⟨v6,rfl,hi6,hb6⟩;obtain⟨g6,p6,n6,c6,rfl⟩:=hi6.form))
    | (((have:=tk7);clear tk7;have l2:=(hi5.below hb6);have d2:=l2;have f2:=hi6;go_at_call 180;(with_reducible refine(qU _ _ (((((x)).num)*((((y)).den:Int)))+((((y)).num)*((((x)).den:Int)))) (((((x)).den:Int))*((((y)).den:Int))) _ d2 f2 (by omega) (by omega) hd0).mono ?_);rintro e w7 ⟨v7,rfl,hi7,hb7⟩;obtain⟨g7,p7,n7,c7,h7,o7,m7,e7,rfl⟩:=hi7.form;have a9o:=(((((((jU.dS (b:=w.heap.size) (by omega) (.bool g1) (.slice p1 n1 c1) (.bool h1) (.slice o1 m1 e1)).dS (b:=w.heap.size+1) (by omega) (.bool g2) (.slice p2 n2 c2) (.bool h2) (.slice o2 m2 e2)).drew.to hb3).to hb4).to hb5).to hb6).to hb7);obtain⟨q0,u0,r0,v0,s0,w0,t0,x0⟩:=a9o.cf4)))
  have j1:=(Below.tr (Below.tr (Below.tr (Below.tr (Below.tr (Below.aU (Below.aU (Below.tr (Below.tr (Below.tr aZ hA1).drew hb1) hb2) (b:=w.heap.size) (by omega) (.bool g1) (.slice p1 n1 c1) (.bool h1) (.slice o1 m1 e1)) (b:=w.heap.size+1) (by omega) (.bool g2) (.slice p2 n2 c2) (.bool h2) (.slice o2 m2 e2)).drew hb3) hb4) hb5) hb6) hb7)
  go_wp2_with fail
  exact iw (v:=.agg #[.bool g7,.slice p7 n7 c7,.bool h7,.slice o7 m7 e7]) (by simp[results,Tryz.results173,go_sem,a0,e0,b0,f0,c0,g0,d0,h0,i0,m0,j0,n0,k0,o0,l0,p0,q0,u0,r0,v0,s0,w0,t0,x0]) rfl ⟨_,rfl,by rw[<-HX.out];exact(hi7.aU a9o rfl rfl rfl rfl (.bool g7) (.slice p7 n7 c7) (.bool h7) (.slice o7 m7 e7)),(Below.aU j1 (b:=w.heap.size+1+1) (by omega) (.bool g7) (.slice p7 n7 c7) (.bool h7) (.slice o7 m7 e7))⟩
theorem a8S (v u:Value) (o1 o2:Bool) (x y:Rat) (w:World) (h1:fH w v o1 x) (h2:fH w u o2 y) (n1:Qn v 400000000) (n2:Qn u 400000000) :
  Calls Tryz.prog 89 #[v,u] w (GQ (x*y) w):=by
 obtain⟨b,p,n,c,d,o,m,e,rfl⟩:=h1.form
 obtain⟨f,i,j,k,g,r,t,a,rfl⟩:=h2.form
 have hl:=h1.jK n1 (by omega)
 have hl2:=h2.jK n2 (by omega)
 have m1:=n1.up (show 400000000<=1000000000 by omega)
 have m2:=n2.up (show 400000000<=1000000000 by omega)
 have b1:=dO x
 have b2:=dI x
 have b3:=dO y
 have b4:=dI y
 have c1:=dK x.num y.num
 have c4:=dK x.den y.den
 have HX:=bn (YU x y)
 have hd0:=wH x y
 have aZ:Below w.heap.size w w:=bg _ _
 go_enter Tryz.func89,Tryz.ntmps89
 go_wp2_with fail
 obtain⟨hA1,y0,z0,i1⟩:=bx3 w rfl [.bool b,.slice p n c,.bool d,.slice o m e] 47 [.bool f,.slice i j k,.bool g,.slice r t a] 47 [.bool false,.slice none 0 0,.bool false,.slice none 0 0] 47
 obtain⟨a2,r2,f2,t2,j2,x2,l2,z2⟩:=y0.drew.cf4
 obtain⟨d3,m3,f3,q3,i3,s3,k3,u3⟩:=z0.drew.cf4
 have tk1:True:=trivial
 have tk2:True:=trivial
 go_region_with
  (first
   | (((have:=tk1);clear tk1;have j1:=(h1.below hA1).drew;go_at_call 178;(with_reducible refine(gY _ _ (x) _ j1 m1).mono ?_);rintro e w1 ⟨v1,rfl,hi1,hb1⟩;obtain⟨g1,p1,n1,c1,h1,o1,m1,e1,rfl⟩:=hi1.form;have dA:=(z0.drew.to hb1);obtain⟨e3,o3,h3,r3,j3,t3,l3,x3⟩:=dA.cf4;have bT:=(y0.drew.to hb1);obtain⟨d2,s2,i2,u2,k2,y2,q2,a3⟩:=bT.cf4))
   | (((have:=tk2);clear tk2;have XQ:=((h2.below hA1).drew.below hb1);have k1:=XQ;go_at_call 178;(with_reducible refine(gY _ _ (y) _ k1 m2).mono ?_);rintro e w2 ⟨v2,rfl,hi2,hb2⟩;obtain⟨g2,p2,n2,c2,h2,o2,m2,e2,rfl⟩:=hi2.form;have bM:=(bT.to hb2);obtain⟨a0,e0,b0,f0,c0,g0,d0,h0⟩:=bM.cf4;have bJ:=(dA.to hb2);obtain⟨i0,m0,j0,n0,k0,o0,l0,p0⟩:=bJ.cf4)))
 all_goals
  go_wp2_with fail
  have jU:=((i1.drew.to hb1).to hb2)
  have WO:=(aK.mk (((bM.sN (.bool g1) (.slice p1 n1 c1) (.bool h1) (.slice o1 m1 e1)).dS (b:=w.heap.size+1) (by omega) (.bool g2) (.slice p2 n2 c2) (.bool h2) (.slice o2 m2 e2)).drew).bs4 (aK.mk (((bJ.dS (b:=w.heap.size) (by omega) (.bool g1) (.slice p1 n1 c1) (.bool h1) (.slice o1 m1 e1)).sN (.bool g2) (.slice p2 n2 c2) (.bool h2) (.slice o2 m2 e2)).drew).bs4 (BN.of (((jU.dS (b:=w.heap.size) (by omega) (.bool g1) (.slice p1 n1 c1) (.bool h1) (.slice o1 m1 e1)).dS (b:=w.heap.size+1) (by omega) (.bool g2) (.slice p2 n2 c2) (.bool h2) (.slice o2 m2 e2)).drew))))
  have d1:dB (w.heap.size+1+1) (aK (BS4 w.heap.size (.bool g1) (.slice p1 n1 c1) (.bool h1) (.slice o1 m1 e1)) (aK (BS4 (w.heap.size+1) (.bool g2) (.slice p2 n2 c2) (.bool h2) (.slice o2 m2 e2)) (BN (w.heap.size+1+1)))):=(aK.hc (BS4.hc (by omega)) (aK.hc (BS4.hc (by omega)) BN.hc))
  have tk3:True:=trivial
  have tk4:True:=trivial
  have tk5:True:=trivial
  go_region_held3 (aK (BS4 w.heap.size (.bool g1) (.slice p1 n1 c1) (.bool h1) (.slice o1 m1 e1)) (aK (BS4 (w.heap.size+1) (.bool g2) (.slice p2 n2 c2) (.bool h2) (.slice o2 m2 e2)) (BN (w.heap.size+1+1)))) (first|with_reducible exact WO|with_reducible exact fG.go (aK.hk BS4.hk (aK.hk BS4.hk BN.hk)) (by assumption) (by assumption)|with_reducible exact dB.go4 d1 (by assumption)|(simp;done))
   (first
    | (((have:=tk3);clear tk3;have a1:=(hi1.below hb2);have l1:=((a1.aU bM rfl rfl rfl rfl (.bool g1) (.slice p1 n1 c1) (.bool h1) (.slice o1 m1 e1)).aU (bJ.dS (b:=w.heap.size) (by omega) (.bool g1) (.slice p1 n1 c1) (.bool h1) (.slice o1 m1 e1)) rfl rfl rfl rfl (.bool g2) (.slice p2 n2 c2) (.bool h2) (.slice o2 m2 e2)).drew.num.raw;have q1:=((hi2.aU bM rfl rfl rfl rfl (.bool g1) (.slice p1 n1 c1) (.bool h1) (.slice o1 m1 e1)).aU (bJ.dS (b:=w.heap.size) (by omega) (.bool g1) (.slice p1 n1 c1) (.bool h1) (.slice o1 m1 e1)) rfl rfl rfl rfl (.bool g2) (.slice p2 n2 c2) (.bool h2) (.slice o2 m2 e2)).drew.num.raw;go_at_call 177;(with_reducible refine(mul_any _ _ (((x)).num) (((y)).num) _ l1 q1 (by omega) (by omega)).mono ?_);rintro e w3 ⟨v3,rfl,hi3,hb3⟩;obtain⟨g3,p3,n3,c3,rfl⟩:=hi3.form))
    | (((have:=tk4);clear tk4;have x1:=(((a1.aU bM rfl rfl rfl rfl (.bool g1) (.slice p1 n1 c1) (.bool h1) (.slice o1 m1 e1)).aU (bJ.dS (b:=w.heap.size) (by omega) (.bool g1) (.slice p1 n1 c1) (.bool h1) (.slice o1 m1 e1)) rfl rfl rfl rfl (.bool g2) (.slice p2 n2 c2) (.bool h2) (.slice o2 m2 e2)).drew.below hb3);have r1:=x1.den.raw;have y1:=(((hi2.aU bM rfl rfl rfl rfl (.bool g1) (.slice p1 n1 c1) (.bool h1) (.slice o1 m1 e1)).aU (bJ.dS (b:=w.heap.size) (by omega) (.bool g1) (.slice p1 n1 c1) (.bool h1) (.slice o1 m1 e1)) rfl rfl rfl rfl (.bool g2) (.slice p2 n2 c2) (.bool h2) (.slice o2 m2 e2)).drew.below hb3);have s1:=y1.den.raw;go_at_call 177;(with_reducible refine(mul_any _ _ ((((x)).den:Int)) ((((y)).den:Int)) _ r1 s1 (by omega) (by omega)).mono ?_);rintro e w4 ⟨v4,rfl,hi4,hb4⟩;obtain⟨g4,p4,n4,c4,rfl⟩:=hi4.form))
    | (((have:=tk5);clear tk5;have z1:=(hi3.below hb4);have t1:=z1;have u1:=hi4;go_at_call 180;(with_reducible refine(qU _ _ ((((x)).num)*(((y)).num)) (((((x)).den:Int))*((((y)).den:Int))) _ t1 u1 (by omega) (by omega) hd0).mono ?_);rintro e w5 ⟨v5,rfl,hi5,hb5⟩;obtain⟨g5,p5,n5,c5,h5,o5,m5,e5,rfl⟩:=hi5.form;have vN:=(((((jU.dS (b:=w.heap.size) (by omega) (.bool g1) (.slice p1 n1 c1) (.bool h1) (.slice o1 m1 e1)).dS (b:=w.heap.size+1) (by omega) (.bool g2) (.slice p2 n2 c2) (.bool h2) (.slice o2 m2 e2)).drew.to hb3).to hb4).to hb5);obtain⟨q0,u0,r0,v0,s0,w0,t0,x0⟩:=vN.cf4)))
  have f1:=(Below.tr (Below.tr (Below.tr (Below.aU (Below.aU (Below.tr (Below.tr (Below.tr aZ hA1).drew hb1) hb2) (b:=w.heap.size) (by omega) (.bool g1) (.slice p1 n1 c1) (.bool h1) (.slice o1 m1 e1)) (b:=w.heap.size+1) (by omega) (.bool g2) (.slice p2 n2 c2) (.bool h2) (.slice o2 m2 e2)).drew hb3) hb4) hb5)
  go_wp2_with fail
  exact iw (v:=.agg #[.bool g5,.slice p5 n5 c5,.bool h5,.slice o5 m5 e5]) (by simp[results,Tryz.results89,go_sem,a0,e0,b0,f0,c0,g0,d0,h0,i0,m0,j0,n0,k0,o0,l0,p0,q0,u0,r0,v0,s0,w0,t0,x0]) rfl ⟨_,rfl,by rw[<-HX.out];exact(hi5.aU vN rfl rfl rfl rfl (.bool g5) (.slice p5 n5 c5) (.bool h5) (.slice o5 m5 e5)),(Below.aU f1 (b:=w.heap.size+1+1) (by omega) (.bool g5) (.slice p5 n5 c5) (.bool h5) (.slice o5 m5 e5))⟩
theorem ZW (v u:Value) (x y:Rat) (w:World) (h1:RQ w v x) (h2:RQ w u y) (l1:rsz x<=400000000) (l2:rsz y<=400000000) :
 Calls Tryz.prog 173 #[v,u] w (GQ (x+y) w):=ZX v u true true x y w h1.raw h2.raw (h1.qn l1) (h2.qn l2)
theorem a1b (v u:Value) (x y:Rat) (w:World) (h1:RQ w v x) (h2:RQ w u y) (l1:rsz x<=400000000) (l2:rsz y<=400000000) :
 Calls Tryz.prog 89 #[v,u] w (GQ (x*y) w):=a8S v u true true x y w h1.raw h2.raw (h1.qn l1) (h2.qn l2)
def BF (x y:Rat):Int:=if x<y then -1 else if y<x then 1 else 0
theorem b0Q (x y:Rat):dF (x.num*y.den) (y.num*x.den)=BF x y:=by
 unfold dF BF
 simp only[a2E]
theorem a1Z (v u:Value) (o1 o2:Bool) (x y:Rat) (w:World) (h1:fH w v o1 x) (h2:fH w u o2 y) (n1:Qn v 400000000) (n2:Qn u 400000000) (hy:y≠0) :
  Calls Tryz.prog 87 #[v,u] w (GQC (x / y) 0 w):=by
 obtain⟨b,p,n,c,d,o,m,e,rfl⟩:=h1.form
 obtain⟨f,i,j,k,g,r,t,a,rfl⟩:=h2.form
 have hl:=h1.jK n1 (by omega)
 have hl2:=h2.jK n2 (by omega)
 have m1:=n1.up (show 400000000<=1000000000 by omega)
 have m2:=n2.up (show 400000000<=1000000000 by omega)
 have b1:=dO x
 have b2:=dI x
 have b3:=dO y
 have b4:=dI y
 have c1:=dK x.num y.den
 have c4:=dK x.den y.num
 have HX:=bn (MN x y)
 have hn0:y.num≠0:=fun h=>hy ((qR y).1 h)
 have hd0:(x.den:Int)*y.num≠0:=fun h=>by
  have:=x.den_nz
  rcases Int.mul_eq_zero.1 h with h|h<;>omega
 have b1m:(sgn y.num==0)=false:=by have:=QU hn0;simpa using this
 clear hy hn0
 have aZ:Below w.heap.size w w:=bg _ _
 go_enter Tryz.func87,Tryz.ntmps87
 go_wp2_with fail
 obtain⟨hA1,y0,z0,j1⟩:=bx3 w rfl [.bool b,.slice p n c,.bool d,.slice o m e] 47 [.bool f,.slice i j k,.bool g,.slice r t a] 47 [.bool false,.slice none 0 0,.bool false,.slice none 0 0] 47
 obtain⟨f2,t2,j2,x2,l2,z2,r2,c3⟩:=y0.drew.cf4
 obtain⟨e3,q3,h3,s3,k3,u3,n3,x3⟩:=z0.drew.cf4
 have tk1:True:=trivial
 have tk2:True:=trivial
 go_region_with
  (first
   | (((have:=tk1);clear tk1;have k1:=(h1.below hA1).drew;go_at_call 178;(with_reducible refine(gY _ _ (x) _ k1 m1).mono ?_);rintro e w1 ⟨v1,rfl,hi1,hb1⟩;obtain⟨g1,p1,n1,c1,h1,o1,m1,e1,rfl⟩:=hi1.form;have dA:=(z0.drew.to hb1);obtain⟨f3,r3,i3,t3,l3,v3,o3,y3⟩:=dA.cf4;have bT:=(y0.drew.to hb1);obtain⟨i2,u2,k2,y2,q2,a3,s2,d3⟩:=bT.cf4))
   | (((have:=tk2);clear tk2;have XQ:=((h2.below hA1).drew.below hb1);have l1:=XQ;go_at_call 178;(with_reducible refine(gY _ _ (y) _ l1 m2).mono ?_);rintro e w2 ⟨v2,rfl,hi2,hb2⟩;obtain⟨g2,p2,n2,c2,h2,o2,m2,e2,rfl⟩:=hi2.form;have bM:=(bT.to hb2);obtain⟨a0,e0,b0,f0,c0,g0,d0,h0⟩:=bM.cf4;have bJ:=(dA.to hb2);obtain⟨i0,m0,j0,n0,k0,o0,l0,p0⟩:=bJ.cf4)))
 all_goals
  obtain⟨g3,j3,m3,p3⟩:=((bJ.dS (b:=w.heap.size) (by omega) (.bool g1) (.slice p1 n1 c1) (.bool h1) (.slice o1 m1 e1)).sN (.bool g2) (.slice p2 n2 c2) (.bool h2) (.slice o2 m2 e2)).cs4
  go_wp2_with fail
  have q1:=((hi2.aU bM rfl rfl rfl rfl (.bool g1) (.slice p1 n1 c1) (.bool h1) (.slice o1 m1 e1)).aU (bJ.dS (b:=w.heap.size) (by omega) (.bool g1) (.slice p1 n1 c1) (.bool h1) (.slice o1 m1 e1)) rfl rfl rfl rfl (.bool g2) (.slice p2 n2 c2) (.bool h2) (.slice o2 m2 e2)).num.raw
  (with_reducible refine(kW _ (((y)).num) _ q1).mono ?_)
  rintro e w3 ⟨rfl,hb3⟩
  go_wp2_with fail
  have iY:=(((bM.sN (.bool g1) (.slice p1 n1 c1) (.bool h1) (.slice o1 m1 e1)).dS (b:=w.heap.size+1) (by omega) (.bool g2) (.slice p2 n2 c2) (.bool h2) (.slice o2 m2 e2)).to hb3)
  have lI:=(((bJ.dS (b:=w.heap.size) (by omega) (.bool g1) (.slice p1 n1 c1) (.bool h1) (.slice o1 m1 e1)).sN (.bool g2) (.slice p2 n2 c2) (.bool h2) (.slice o2 m2 e2)).to hb3)
  have BK:=(((((j1.drew.to hb1).to hb2).dS (b:=w.heap.size) (by omega) (.bool g1) (.slice p1 n1 c1) (.bool h1) (.slice o1 m1 e1)).dS (b:=w.heap.size+1) (by omega) (.bool g2) (.slice p2 n2 c2) (.bool h2) (.slice o2 m2 e2)).to hb3)
  have b9R:=(aK.mk (iY.drew).bs4 (aK.mk (lI.drew).bs4 (BN.of (BK.drew))))
  have f1:dB (w.heap.size+1+1) (aK (BS4 w.heap.size (.bool g1) (.slice p1 n1 c1) (.bool h1) (.slice o1 m1 e1)) (aK (BS4 (w.heap.size+1) (.bool g2) (.slice p2 n2 c2) (.bool h2) (.slice o2 m2 e2)) (BN (w.heap.size+1+1)))):=(aK.hc (BS4.hc (by omega)) (aK.hc (BS4.hc (by omega)) BN.hc))
  have tk3:True:=trivial
  have tk4:True:=trivial
  have tk5:True:=trivial
  go_region_held3 (aK (BS4 w.heap.size (.bool g1) (.slice p1 n1 c1) (.bool h1) (.slice o1 m1 e1)) (aK (BS4 (w.heap.size+1) (.bool g2) (.slice p2 n2 c2) (.bool h2) (.slice o2 m2 e2)) (BN (w.heap.size+1+1)))) (first|with_reducible exact b9R|with_reducible exact fG.go (aK.hk BS4.hk (aK.hk BS4.hk BN.hk)) (by assumption) (by assumption)|with_reducible exact dB.go4 f1 (by assumption)|(simp;done))
   (first
    | (((have:=tk3);clear tk3;have a1:=((((hi1.below hb2).aU bM rfl rfl rfl rfl (.bool g1) (.slice p1 n1 c1) (.bool h1) (.slice o1 m1 e1)).aU (bJ.dS (b:=w.heap.size) (by omega) (.bool g1) (.slice p1 n1 c1) (.bool h1) (.slice o1 m1 e1)) rfl rfl rfl rfl (.bool g2) (.slice p2 n2 c2) (.bool h2) (.slice o2 m2 e2)).below hb3);have r1:=a1.drew.num.raw;have d1:=(((hi2.aU bM rfl rfl rfl rfl (.bool g1) (.slice p1 n1 c1) (.bool h1) (.slice o1 m1 e1)).aU (bJ.dS (b:=w.heap.size) (by omega) (.bool g1) (.slice p1 n1 c1) (.bool h1) (.slice o1 m1 e1)) rfl rfl rfl rfl (.bool g2) (.slice p2 n2 c2) (.bool h2) (.slice o2 m2 e2)).below hb3);have s1:=d1.drew.den.raw;go_at_call 177;(with_reducible refine(mul_any _ _ (((x)).num) ((((y)).den:Int)) _ r1 s1 (by omega) (by omega)).mono ?_);rintro e w4 ⟨v4,rfl,hi4,hb4⟩;obtain⟨g4,p4,n4,c4,rfl⟩:=hi4.form))
    | (((have:=tk4);clear tk4;have z1:=(a1.drew.below hb4);have t1:=z1.den.raw;have a2:=(d1.drew.below hb4);have u1:=a2.num.raw;go_at_call 177;(with_reducible refine(mul_any _ _ ((((x)).den:Int)) (((y)).num) _ t1 u1 (by omega) (by omega)).mono ?_);rintro e w5 ⟨v5,rfl,hi5,hb5⟩;obtain⟨g5,p5,n5,c5,rfl⟩:=hi5.form))
    | (((have:=tk5);clear tk5;have d2:=(hi4.below hb5);have x1:=d2;have y1:=hi5;go_at_call 180;(with_reducible refine(qU _ _ ((((x)).num)*((((y)).den:Int))) (((((x)).den:Int))*(((y)).num)) _ x1 y1 (by omega) (by omega) hd0).mono ?_);rintro e w6 ⟨v6,rfl,hi6,hb6⟩;obtain⟨g6,p6,n6,c6,h6,o6,m6,e6,rfl⟩:=hi6.form;have qA:=(((BK.drew.to hb4).to hb5).to hb6);obtain⟨q0,u0,r0,v0,s0,w0,t0,x0⟩:=qA.cf4)))
  have i1:=(Below.tr (Below.tr (Below.tr (Below.tr (Below.aU (Below.aU (Below.tr (Below.tr (Below.tr aZ hA1).drew hb1) hb2) (b:=w.heap.size) (by omega) (.bool g1) (.slice p1 n1 c1) (.bool h1) (.slice o1 m1 e1)) (b:=w.heap.size+1) (by omega) (.bool g2) (.slice p2 n2 c2) (.bool h2) (.slice o2 m2 e2)) hb3).drew hb4) hb5) hb6)
  go_wp2_with fail
  exact iw (v:=.tuple #[.agg #[.bool g6,.slice p6 n6 c6,.bool h6,.slice o6 m6 e6],.int .i64 0]) (by simp[results,Tryz.results87,go_sem,a0,e0,b0,f0,c0,g0,d0,h0,i0,m0,j0,n0,k0,o0,l0,p0,q0,u0,r0,v0,s0,w0,t0,x0]) rfl ⟨_,rfl,by rw[<-HX.out];exact(hi6.aU qA rfl rfl rfl rfl (.bool g6) (.slice p6 n6 c6) (.bool h6) (.slice o6 m6 e6)),(Below.aU i1 (b:=w.heap.size+1+1) (by omega) (.bool g6) (.slice p6 n6 c6) (.bool h6) (.slice o6 m6 e6))⟩
theorem NY (v u:Value) (o1 o2:Bool) (x y:Rat) (w:World) (h1:fH w v o1 x) (h2:fH w u o2 y) (n1:Qn v 400000000) (n2:Qn u 400000000) (hy:y=0) :
  Calls Tryz.prog 87 #[v,u] w (b0x 14 w):=by
 obtain⟨b,p,n,c,d,o,m,e,rfl⟩:=h1.form
 obtain⟨f,i,j,k,g,r,t,a,rfl⟩:=h2.form
 have hl:=h1.jK n1 (by omega)
 have hl2:=h2.jK n2 (by omega)
 have m1:=n1.up (show 400000000<=1000000000 by omega)
 have m2:=n2.up (show 400000000<=1000000000 by omega)
 have b1:=dO x
 have b2:=dI x
 have b3:=dO y
 have b4:=dI y
 have b1m:(sgn y.num==0)=true:=by rw[hy];rfl
 clear hy
 have aZ:Below w.heap.size w w:=bg _ _
 go_enter Tryz.func87,Tryz.ntmps87
 go_wp2_with fail
 obtain⟨hA1,y0,z0,d1⟩:=bx3 w rfl [.bool b,.slice p n c,.bool d,.slice o m e] 47 [.bool f,.slice i j k,.bool g,.slice r t a] 47 [.bool false,.slice none 0 0,.bool false,.slice none 0 0] 47
 obtain⟨k1,y1,q1,a2,s1,f2,u1,j2⟩:=y0.drew.cf4
 obtain⟨l2,e3,s2,g3,x2,i3,a3,k3⟩:=z0.drew.cf4
 have tk1:True:=trivial
 have tk2:True:=trivial
 go_region_with
  (first
   | (((have:=tk1);clear tk1;have f1:=(h1.below hA1).drew;go_at_call 178;(with_reducible refine(gY _ _ (x) _ f1 m1).mono ?_);rintro e w1 ⟨v1,rfl,hi1,hb1⟩;obtain⟨g1,p1,n1,c1,h1,o1,m1,e1,rfl⟩:=hi1.form;have dA:=(z0.drew.to hb1);obtain⟨q2,f3,t2,h3,y2,j3,c3,l3⟩:=dA.cf4;have bT:=(y0.drew.to hb1);obtain⟨l1,z1,r1,d2,t1,i2,x1,k2⟩:=bT.cf4))
   | (((have:=tk2);clear tk2;have XQ:=((h2.below hA1).drew.below hb1);have i1:=XQ;go_at_call 178;(with_reducible refine(gY _ _ (y) _ i1 m2).mono ?_);rintro e w2 ⟨v2,rfl,hi2,hb2⟩;obtain⟨g2,p2,n2,c2,h2,o2,m2,e2,rfl⟩:=hi2.form;have bM:=(bT.to hb2);obtain⟨a0,e0,b0,f0,c0,g0,d0,h0⟩:=bM.cf4;have bJ:=(dA.to hb2);obtain⟨i0,m0,j0,n0,k0,o0,l0,p0⟩:=bJ.cf4)))
 all_goals
  obtain⟨r2,u2,z2,d3⟩:=((bJ.dS (b:=w.heap.size) (by omega) (.bool g1) (.slice p1 n1 c1) (.bool h1) (.slice o1 m1 e1)).sN (.bool g2) (.slice p2 n2 c2) (.bool h2) (.slice o2 m2 e2)).cs4
  go_wp2_with fail
  have j1:=((hi2.aU bM rfl rfl rfl rfl (.bool g1) (.slice p1 n1 c1) (.bool h1) (.slice o1 m1 e1)).aU (bJ.dS (b:=w.heap.size) (by omega) (.bool g1) (.slice p1 n1 c1) (.bool h1) (.slice o1 m1 e1)) rfl rfl rfl rfl (.bool g2) (.slice p2 n2 c2) (.bool h2) (.slice o2 m2 e2)).num.raw
  (with_reducible refine(kW _ (((y)).num) _ j1).mono ?_)
  rintro e w3 ⟨rfl,hb3⟩
  have BK:=(((((d1.drew.to hb1).to hb2).dS (b:=w.heap.size) (by omega) (.bool g1) (.slice p1 n1 c1) (.bool h1) (.slice o1 m1 e1)).dS (b:=w.heap.size+1) (by omega) (.bool g2) (.slice p2 n2 c2) (.bool h2) (.slice o2 m2 e2)).to hb3)
  obtain⟨q0,u0,r0,v0,s0,w0,t0,x0⟩:=BK.cf4
  have a1:=(Below.tr (Below.aU (Below.aU (Below.tr (Below.tr (Below.tr aZ hA1).drew hb1) hb2) (b:=w.heap.size) (by omega) (.bool g1) (.slice p1 n1 c1) (.bool h1) (.slice o1 m1 e1)) (b:=w.heap.size+1) (by omega) (.bool g2) (.slice p2 n2 c2) (.bool h2) (.slice o2 m2 e2)) hb3)
  go_wp2_with fail
  exact iw (v:=.tuple #[.agg #[.bool false,.slice none 0 0,.bool false,.slice none 0 0],.int .i64 14]) (by simp[results,Tryz.results87,go_sem,a0,e0,b0,f0,c0,g0,d0,h0,i0,m0,j0,n0,k0,o0,l0,p0,q0,u0,r0,v0,s0,w0,t0,x0]) rfl ⟨rfl,(Below.aU a1 (b:=w.heap.size+1+1) (by omega) (.bool false) (.slice none 0 0) (.bool false) (.slice none 0 0))⟩
theorem XH (v u:Value) (o1 o2:Bool) (x y:Rat) (w:World) (h1:fH w v o1 x) (h2:fH w u o2 y) (n1:Qn v 400000000) (n2:Qn u 400000000) :
  Calls Tryz.prog 128 #[v,u] w (fun e w'=>e=.returned (.int .i64 (BF x y))/\Below w.heap.size w w'):=by
 obtain⟨b,p,n,c,d,o,m,e,rfl⟩:=h1.form
 obtain⟨f,i,j,k,g,r,t,a,rfl⟩:=h2.form
 have hl:=h1.jK n1 (by omega)
 have hl2:=h2.jK n2 (by omega)
 have m1:=n1.up (show 400000000<=1000000000 by omega)
 have m2:=n2.up (show 400000000<=1000000000 by omega)
 have b1:=dO x
 have b2:=dI x
 have b3:=dO y
 have b4:=dI y
 have c1:=dK x.num y.den
 have c2:=dK y.num x.den
 have aZ:Below w.heap.size w w:=bg _ _
 go_enter Tryz.func128,Tryz.ntmps128
 go_wp2_with fail
 obtain⟨hA1,a0,b0⟩:=bx2 w rfl [.bool b,.slice p n c,.bool d,.slice o m e] 47 [.bool f,.slice i j k,.bool g,.slice r t a] 47
 obtain⟨p0,d1,s0,j1,v0,q1,y0,t1⟩:=a0.drew.cf4
 obtain⟨y1,t2,d2,y2,j2,d3,q2,h3⟩:=b0.drew.cf4
 have tk1:True:=trivial
 have tk2:True:=trivial
 go_region_with
  (first
   | (((have:=tk1);clear tk1;have e0:=(h1.below hA1).drew;go_at_call 178;(with_reducible refine(gY _ _ (x) _ e0 m1).mono ?_);rintro e w1 ⟨v1,rfl,hi1,hb1⟩;obtain⟨g1,p1,n1,c1,h1,o1,m1,e1,rfl⟩:=hi1.form;have dA:=(b0.drew.to hb1);obtain⟨z1,u2,f2,z2,k2,e3,r2,i3⟩:=dA.cf4;have bT:=(a0.drew.to hb1);obtain⟨q0,f1,t0,k1,w0,r1,z0,u1⟩:=bT.cf4))
   | (((have:=tk2);clear tk2;have XQ:=((h2.below hA1).drew.below hb1);have f0:=XQ;go_at_call 178;(with_reducible refine(gY _ _ (y) _ f0 m2).mono ?_);rintro e w2 ⟨v2,rfl,hi2,hb2⟩;obtain⟨g2,p2,n2,c2,h2,o2,m2,e2,rfl⟩:=hi2.form;have bM:=(bT.to hb2);obtain⟨r0,i1,u0,l1,x0,s1,a1,x1⟩:=bM.cf4;have bJ:=(dA.to hb2);obtain⟨a2,x2,i2,a3,l2,f3,s2,j3⟩:=bJ.cf4)))
 all_goals
  go_wp2_with fail
  have WO:=(aK.mk (((bM.sN (.bool g1) (.slice p1 n1 c1) (.bool h1) (.slice o1 m1 e1)).dS (b:=w.heap.size+1) (by omega) (.bool g2) (.slice p2 n2 c2) (.bool h2) (.slice o2 m2 e2)).drew).bs4 (((bJ.dS (b:=w.heap.size) (by omega) (.bool g1) (.slice p1 n1 c1) (.bool h1) (.slice o1 m1 e1)).sN (.bool g2) (.slice p2 n2 c2) (.bool h2) (.slice o2 m2 e2)).drew).bs4)
  have tk3:True:=trivial
  have tk4:True:=trivial
  have tk5:True:=trivial
  go_region_held3 (aK (BS4 w.heap.size (.bool g1) (.slice p1 n1 c1) (.bool h1) (.slice o1 m1 e1)) (BS4 (w.heap.size+1) (.bool g2) (.slice p2 n2 c2) (.bool h2) (.slice o2 m2 e2))) (first|with_reducible exact WO|with_reducible exact fG.go (aK.hk BS4.hk BS4.hk) (by assumption) (by assumption)|(simp;done))
   (first
    | (((have:=tk3);clear tk3;have c0:=(hi1.below hb2);have g0:=((c0.aU bM rfl rfl rfl rfl (.bool g1) (.slice p1 n1 c1) (.bool h1) (.slice o1 m1 e1)).aU (bJ.dS (b:=w.heap.size) (by omega) (.bool g1) (.slice p1 n1 c1) (.bool h1) (.slice o1 m1 e1)) rfl rfl rfl rfl (.bool g2) (.slice p2 n2 c2) (.bool h2) (.slice o2 m2 e2)).drew.num.raw;have h0:=((hi2.aU bM rfl rfl rfl rfl (.bool g1) (.slice p1 n1 c1) (.bool h1) (.slice o1 m1 e1)).aU (bJ.dS (b:=w.heap.size) (by omega) (.bool g1) (.slice p1 n1 c1) (.bool h1) (.slice o1 m1 e1)) rfl rfl rfl rfl (.bool g2) (.slice p2 n2 c2) (.bool h2) (.slice o2 m2 e2)).drew.den.raw;go_at_call 177;(with_reducible refine(mul_any _ _ (((x)).num) ((((y)).den:Int)) _ g0 h0 (by omega) (by omega)).mono ?_);rintro e w3 ⟨v3,rfl,hi3,hb3⟩;obtain⟨g3,p3,n3,c3,rfl⟩:=hi3.form))
    | (((have:=tk4);clear tk4;have n0:=(((hi2.aU bM rfl rfl rfl rfl (.bool g1) (.slice p1 n1 c1) (.bool h1) (.slice o1 m1 e1)).aU (bJ.dS (b:=w.heap.size) (by omega) (.bool g1) (.slice p1 n1 c1) (.bool h1) (.slice o1 m1 e1)) rfl rfl rfl rfl (.bool g2) (.slice p2 n2 c2) (.bool h2) (.slice o2 m2 e2)).drew.below hb3);have i0:=n0.num.raw;have m0:=(((c0.aU bM rfl rfl rfl rfl (.bool g1) (.slice p1 n1 c1) (.bool h1) (.slice o1 m1 e1)).aU (bJ.dS (b:=w.heap.size) (by omega) (.bool g1) (.slice p1 n1 c1) (.bool h1) (.slice o1 m1 e1)) rfl rfl rfl rfl (.bool g2) (.slice p2 n2 c2) (.bool h2) (.slice o2 m2 e2)).drew.below hb3);have j0:=m0.den.raw;go_at_call 177;(with_reducible refine(mul_any _ _ (((y)).num) ((((x)).den:Int)) _ i0 j0 (by omega) (by omega)).mono ?_);rintro e w4 ⟨v4,rfl,hi4,hb4⟩;obtain⟨g4,p4,n4,c4,rfl⟩:=hi4.form))
    | (((have:=tk5);clear tk5;have o0:=(hi3.below hb4);have k0:=o0.raw;have l0:=hi4.raw;go_at_call 182;(with_reducible refine(wF _ _ ((((x)).num)*((((y)).den:Int))) ((((y)).num)*((((x)).den:Int))) _ k0 l0).mono ?_);rintro e w5 ⟨rfl,hb5⟩)))
  have d0:=(Below.tr (Below.tr (Below.tr (Below.aU (Below.aU (Below.tr (Below.tr (Below.tr aZ hA1).drew hb1) hb2) (b:=w.heap.size) (by omega) (.bool g1) (.slice p1 n1 c1) (.bool h1) (.slice o1 m1 e1)) (b:=w.heap.size+1) (by omega) (.bool g2) (.slice p2 n2 c2) (.bool h2) (.slice o2 m2 e2)).drew hb3) hb4) hb5)
  go_wp2_with fail
  go_ret
  exact⟨gG (b0Q x y),d0⟩
theorem EF (v u:Value) (x y:Rat) (w:World) (h1:RQ w v x) (h2:RQ w u y) (l1:rsz x<=400000000) (l2:rsz y<=400000000) :
 Calls Tryz.prog 128 #[v,u] w (fun e w'=>e=.returned (.int .i64 (BF x y))/\Below w.heap.size w w'):=XH v u true true x y w h1.raw h2.raw (h1.qn l1) (h2.qn l2)
theorem a3E (v u:Value) (x y:Rat) (w:World) (h1:RQ w v x) (h2:RQ w u y) (l1:rsz x<=400000000) (l2:rsz y<=400000000) (hy:y≠0) :
 Calls Tryz.prog 87 #[v,u] w (GQC (x / y) 0 w):=a1Z v u true true x y w h1.raw h2.raw (h1.qn l1) (h2.qn l2) hy
theorem b0e (v u:Value) (o1 o2:Bool) (x y:Rat) (w:World) (fa:fH w v o1 x) (fb:fH w u o2 y) (qa:Qn v 400000000) (qb:Qn u 400000000) :
  Calls Tryz.prog 186 #[v,u] w (GQ (x-y) w):=by
 obtain⟨b,p,n,c,d,o,m,e,rfl⟩:=fa.form
 obtain⟨f,i,j,k,g,r,t,a,rfl⟩:=fb.form
 have hl:=fa.jK qa (by omega)
 have hl2:=fb.jK qb (by omega)
 have ma:=qa.up (show 400000000<=1000000000 by omega)
 have mb:=qb.up (show 400000000<=1000000000 by omega)
 have b1:=dO x
 have b2:=dI x
 have b3:=dO y
 have b4:=dI y
 have hc5:rsz (-y)<=400000000:=by rw[ZB];exact hl2
 have aZ:Below w.heap.size w w:=bg _ _
 go_enter Tryz.func186,Tryz.ntmps186
 go_wp2_with fail
 obtain⟨hA1,l0,m0,i0⟩:=bx3 w rfl [.bool b,.slice p n c,.bool d,.slice o m e] 47 [.bool f,.slice i j k,.bool g,.slice r t a] 47 [.bool false,.slice none 0 0,.bool false,.slice none 0 0] 47
 have vZ:=(aK.mk (l0.drew).bs4 (aK.mk (m0.drew).bs4 (BN.of (i0.drew))))
 have j0:dB (w.heap.size+1+1) (aK (BS4 w.heap.size (.bool b) (.slice p n c) (.bool d) (.slice o m e)) (aK (BS4 (w.heap.size+1) (.bool f) (.slice i j k) (.bool g) (.slice r t a)) (BN (w.heap.size+1+1)))):=(aK.hc (BS4.hc (by omega)) (aK.hc (BS4.hc (by omega)) BN.hc))
 have tk1:True:=trivial
 have tk2:True:=trivial
 go_region_held3 (aK (BS4 w.heap.size (.bool b) (.slice p n c) (.bool d) (.slice o m e)) (aK (BS4 (w.heap.size+1) (.bool f) (.slice i j k) (.bool g) (.slice r t a)) (BN (w.heap.size+1+1)))) (first|with_reducible exact vZ|with_reducible exact fG.go (aK.hk BS4.hk (aK.hk BS4.hk BN.hk)) (by assumption) (by assumption)|with_reducible exact dB.go4 j0 (by assumption)|(simp;done))
  (first
   | (((have:=tk1);clear tk1;have n0:=(fb.below hA1).drew;go_at_call 172;(with_reducible refine(a1c _ _ (y) _ n0 mb).mono ?_);rintro e w1 ⟨v1,rfl,hi1,hb1⟩;obtain⟨g1,p1,n1,c1,h1,o1,m1,e1,rfl⟩:=hi1.form))
   | (((have:=tk2);clear tk2;have b3P:=((fa.below hA1).drew.below hb1);have o0:=b3P;have p0:=hi1.raw;go_at_call 173;(with_reducible refine(ZX _ _ _ _ (x) (-(y)) _ o0 p0 qa (RQ.qn hi1 hc5)).mono ?_);rintro e w2 ⟨v2,rfl,hi2,hb2⟩;obtain⟨g2,p2,n2,c2,h2,o2,m2,e2,rfl⟩:=hi2.form;have jU:=((i0.drew.to hb1).to hb2);obtain⟨a0,e0,b0,f0,c0,g0,d0,h0⟩:=jU.cf4)))
 have k0:=(Below.tr (Below.tr (Below.tr aZ hA1).drew hb1) hb2)
 go_wp2_with fail
 exact iw (v:=.agg #[.bool g2,.slice p2 n2 c2,.bool h2,.slice o2 m2 e2]) (by simp[results,Tryz.results186,go_sem,a0,e0,b0,f0,c0,g0,d0,h0]) rfl ⟨_,rfl,by rw[Rat.sub_eq_add_neg];exact(hi2.aU jU rfl rfl rfl rfl (.bool g2) (.slice p2 n2 c2) (.bool h2) (.slice o2 m2 e2)),(Below.aU k0 (b:=w.heap.size+1+1) (by omega) (.bool g2) (.slice p2 n2 c2) (.bool h2) (.slice o2 m2 e2))⟩
theorem b0d (v u:Value) (x y:Rat) (w:World) (h1:RQ w v x) (h2:RQ w u y) (l1:rsz x<=400000000) (l2:rsz y<=400000000) :
 Calls Tryz.prog 186 #[v,u] w (GQ (x-y) w):=b0e v u true true x y w h1.raw h2.raw (h1.qn l1) (h2.qn l2)
set_option maxRecDepth 20000
theorem b3w:aT Tryz.prog 126 (cVal 1000000000):=(XB fun v ok q w h hn=>xG v ok q w h hn)
theorem b0t:aT Tryz.prog 127 (cQI (fun x=>rsz x<=1000000000) (fun x=>sgn x.num)):=(a1V fun v x w h hl=>VK v x w h hl)
theorem a5a:aT Tryz.prog 90 (cIQ gX (fun i=>(i:Rat))):=(WZ fun x w h=>DT x w h.1 h.2)
theorem b0v:aT Tryz.prog 173 (cQ2 s44 (·+·)):=(CO fun v u x y w a b h=>ZW v u x y w a b h.1 h.2)
theorem b0w:aT Tryz.prog 89 (cQ2 s44 (·*·)):=(CO fun v u x y w a b h=>a1b v u x y w a b h.1 h.2)
theorem b9K:aT Tryz.prog 87 (a0h 400000000 14):=(a0i (fun v u x y w a b h1 h2 hy=>a3E v u x y w a b h1 h2 hy) (fun v u x y w a b l1 l2 hy=>NY v u true true x y w a.raw b.raw (a.qn l1) (b.qn l2) hy))
theorem b8g:aT Tryz.prog 128 (b0J s44 BF):=(XA fun v u x y w a b h=>EF v u x y w a b h.1 h.2)
noncomputable def LCa:Lib:=((((((((Lib.nil
 ).add 90 (cIQ gX (fun i=>(i:Rat))) (WZ fun x w h=>DT x w h.1 h.2)
 ).add 126 (cVal 1000000000) (XB fun v ok q w h hn=>xG v ok q w h hn)
 ).add 173 (cQ2 s44 (·+·)) (CO fun v u x y w a b h=>ZW v u x y w a b h.1 h.2)
 ).add 89 (cQ2 s44 (·*·)) (CO fun v u x y w a b h=>a1b v u x y w a b h.1 h.2)
 ).add 186 (cQ2 s44 (·-·)) (CO fun v u x y w a b h=>b0d v u x y w a b h.1 h.2)
 ).add 128 (b0J s44 BF) (XA fun v u x y w a b h=>EF v u x y w a b h.1 h.2)
 ).add 87 (a0h 400000000 14) (a0i (fun v u x y w a b h1 h2 hy=>a3E v u x y w a b h1 h2 hy) (fun v u x y w a b l1 l2 hy=>NY v u true true x y w a.raw b.raw (a.qn l1) (b.qn l2) hy))
 ).add 127 (cQI (fun x=>rsz x<=1000000000) (fun x=>sgn x.num)) (a1V fun v x w h hl=>VK v x w h hl)
end Go.Proofs.YtbkocjmmbkifjaaGreat
