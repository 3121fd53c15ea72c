/-
  Lemmas for the theorem vofmatrices_holds, part 28 of 32.
-/
import Derived.Test.YtidfgdchcpmnfaaGreatOm07
import Derived.Test.YtidfgdchcpmnfaaGreatOm20
import Derived.Test.YtidfgdchcpmnfaaGreatOm23
import Derived.Test.YtidfgdchcpmnfaaGreatOm27
namespace Go.Proofs.YtidfgdchcpmnfaaGreat
open Go Go.RowKit
set_option maxRecDepth 100000
set_option maxHeartbeats 4000000
set_option linter.unusedSimpArgs false
set_option linter.unusedVariables false
def okc (x:Int):Prop:=-1048576<=x/\x<=1048576
instance (x:Int):Decidable (okc x):=by unfold okc;infer_instance
def dO (a b c d:Int):Int:=if a=0/\b=0/\c=0/\d=0 then 1 else if okc a/\okc b/\okc c/\okc d then 0 else 3
def aO (xs:Nat->Int):Nat->Int
 | 0=>0
 | k+1=>((Int.gcd (aO xs k) (xs k):Nat):Int)
def kL (xs:Nat->Int):Nat->Int
 | 0=>0
 | k+1=>if kL xs k=0 then xs k else kL xs k
theorem EJ {xs:Nat->Int} {K:Nat}:∀ k,(∀ j,j<k->isz (xs j)<=K)->isz (aO xs k)<=K
 | 0,_=>by show isz 0<=K;rw[a0x];omega
 | k+1,h=>by
  have ih:=EJ k (fun j hj=>h j (by omega))
  show isz ((Int.gcd (aO xs k) (xs k):Nat):Int)<=K
  by_cases hx:xs k=0
  ·rw[hx,Int.gcd_zero_right]
   have:isz (((aO xs k).natAbs:Nat):Int)=isz (aO xs k):=by unfold isz;simp
   omega
  ·exact oP hx (h k (by omega))
theorem a3X {xs:Nat->Int} {j:Nat} (hj:xs j≠0):∀ k,j<k->aO xs k≠0
 | 0,h=>by omega
 | k+1,h=>by
  show ((Int.gcd (aO xs k) (xs k):Nat):Int)≠0
  intro e
  have e':Int.gcd (aO xs k) (xs k)=0:=by omega
  rw[Int.gcd_eq_zero_iff] at e'
  by_cases hk:j=k
  ·subst hk;exact hj e'.2
  ·exact a3X hj k (by omega) e'.1
theorem jZ {x:Int}:sgn x=0↔x=0:=by unfold sgn;exact Int.sign_eq_zero_iff_zero
def kH (xs:Nat->Int):Int:=if kL xs 4<0 then -aO xs 4 else aO xs 4
def kW (xs:Nat->Int) (k:Nat):Int:=(xs k).fdiv (kH xs)
def JA (xs:Nat->Int):Prop:=∀ k,k<4->okc (kW xs k)
instance (xs:Nat->Int):Decidable (JA xs):=by unfold JA;infer_instance
theorem a0K {xs:Nat->Int} {j:Nat} (hj:j<4) (h:xs j≠0):kH xs≠0:=by
 have:=a3X h 4 hj
 unfold kH
 split<;>omega
def xs4 (a b c d:Int):Nat->Int
 | 0=>a|1=>b|2=>c|_=>d
def nzB (q:Nat->Rat):Bool:=!allB 4 (fun i=>decide (q i=0))
theorem qU {x y:Int} (hy:y≠0) (h:y ∣ x):isz (x.fdiv y)<=isz x:=by
 obtain⟨z,rfl⟩:=h
 rw[Int.mul_fdiv_cancel_left _ hy]
 exact EP (by rw[Int.natAbs_mul];exact Nat.le_mul_of_pos_left _ (Int.natAbs_pos.2 hy))
def qI (q:Nat->Rat):Int:=1*((q 0).den:Int)*((q 1).den:Int)*((q 2).den:Int)*((q 3).den:Int)
def aV (q:Nat->Rat):Nat->Int:=fun k=>(q k).num*(qI q).fdiv ((q k).den:Int)
theorem ER {x:Int} (h0:-9223372036854775808<=x) (h1:x<=9223372036854775807):isz x<=400000000 :=
 Nat.le_trans (uS (k:=3) (by rw[bG];omega)) (by omega)
theorem sJ {a b c d:Int} (h:dO a b c d=0):¬ (a=0/\b=0/\c=0/\d=0)/\okc a/\okc b/\okc c/\okc d:=by
 unfold dO at h
 by_cases h1:a=0/\b=0/\c=0/\d=0
 ·rw[if_pos h1] at h;omega
 ·rw[if_neg h1] at h
  by_cases h2:okc a/\okc b/\okc c/\okc d
  ·exact⟨h1,h2⟩
  ·rw[if_neg h2] at h;omega
theorem bP {x y:Int} (hx:okc x) (hy:okc y):-1099511627776<=x*y/\x*y<=1099511627776:=by
 unfold okc at hx hy
 have h1:(x*y).natAbs<=1048576*1048576:=by
  rw[Int.natAbs_mul]
  exact Nat.mul_le_mul (by omega) (by omega)
 omega
def gW (a b c d:Int):Int:=a*a+b*b+c*c+d*d
def nO (a b c d e f g h:Int):Int:=if dO a b c d=0 then dO e f g h else dO a b c d
def b1m (a b c d e f g h:Int):Nat->Int:=xs4 (a*e-b*f-c*g-d*h) (a*f+b*e+c*h-d*g) (a*g-b*h+c*e+d*f) (a*h+b*g-c*f+d*e)
theorem a5Q (a b c d e f g h:Int):(a*e-b*f-c*g-d*h)*(a*e-b*f-c*g-d*h)+(a*f+b*e+c*h-d*g)*(a*f+b*e+c*h-d*g)+(a*g-b*h+c*e+d*f)*(a*g-b*h+c*e+d*f)+(a*h+b*g-c*f+d*e)*(a*h+b*g-c*f+d*e)=gW a b c d*gW e f g h:=by
 unfold gW;grind
theorem vI {a b c d:Int} (h:¬ (a=0/\b=0/\c=0/\d=0)):0<gW a b c d:=by
 have s:∀ x:Int,0<=x*x:=fun x=>by
  rcases Int.le_total 0 x with h|h
  ·exact Int.mul_nonneg h h
  ·exact Int.mul_nonneg_of_nonpos_of_nonpos h h
 have p:∀ x:Int,x≠0->0<x*x:=fun x hx=>by
  rcases Int.lt_or_gt_of_ne hx with h|h
  ·exact Int.mul_pos_of_neg_of_neg h h
  ·exact Int.mul_pos h h
 unfold gW
 have:=s a;have:=s b;have:=s c;have:=s d
 by_cases ha:a=0
 ·by_cases hb:b=0
  ·by_cases hc:c=0
   ·have:=p d (fun hd=>h ⟨ha,hb,hc,hd⟩);omega
   ·have:=p c hc;omega
  ·have:=p b hb;omega
 ·have:=p a ha;omega
theorem b0w {a b c d e f g h:Int} (h1:¬ (a=0/\b=0/\c=0/\d=0)) (h2:¬ (e=0/\f=0/\g=0/\h=0)) :
  ¬ (a*e-b*f-c*g-d*h=0/\a*f+b*e+c*h-d*g=0/\a*g-b*h+c*e+d*f=0/\a*h+b*g-c*f+d*e=0):=fun⟨k0,k1,k2,k3⟩=>by
 have:=a5Q a b c d e f g h
 rw[k0,k1,k2,k3] at this
 have:=Int.mul_pos (vI h1) (vI h2)
 omega
theorem KE {a b c d:Int} (oa:okc a) (ob:okc b) (oc:okc c) (od:okc d):-8796093022208<=gW a b c d/\gW a b c d<=8796093022208:=by
 obtain⟨p0,p1⟩:=bP oa oa
 obtain⟨p2,p3⟩:=bP ob ob
 obtain⟨p4,p5⟩:=bP oc oc
 obtain⟨p6,p7⟩:=bP od od
 unfold gW;omega
def BL (a b c d e f g h:Int):Int:=a*e+b*f+c*g+d*h
theorem a2I {a b c d e f g h:Int} (oa:okc a) (ob:okc b) (oc:okc c) (od:okc d) (oe:okc e) (of:okc f) (og:okc g) (oh:okc h):-8796093022208<=BL a b c d e f g h/\BL a b c d e f g h<=8796093022208:=by
 obtain⟨p0,p1⟩:=bP oa oe
 obtain⟨p2,p3⟩:=bP ob of
 obtain⟨p4,p5⟩:=bP oc og
 obtain⟨p6,p7⟩:=bP od oh
 unfold BL;omega
def a1R (a b c d e f g h:Int):Rat:=((1:Int):Rat)-Rat.divInt (BL a b c d e f g h*BL a b c d e f g h) (gW a b c d*gW e f g h)
theorem a2q {x:Int} (h0:-8796093022208<=x) (h1:x<=8796093022208):isz x<=2 :=
 uS (by rw[bG];omega)
def iK (s:Nat->Int) (e:Nat->Nat->Rat):Nat->Rat
 | 0=>((1:Int):Rat)
 | k+1=>iK s e k+((s k:Int):Rat)*e k k
theorem IY {s:Nat->Int} {e:Nat->Nat->Rat} {K:Nat} (hs:∀ k,k<3->rsz ((s k:Int):Rat)<=1) (he:∀ k,k<3->rsz (e k k)<=K):∀ k,k<=3->rsz (iK s e k)<=k*(K+2)+1
 | 0,_=>by
  show rsz ((1:Int):Rat)<=_
  have:rsz ((1:Int):Rat)<=1:=by decide +kernel
  omega
 | k+1,hk=>by
  have ih:=IY hs he k (by omega)
  have a:=fP ((s k:Int):Rat) (e k k)
  have b:=mJ (iK s e k) (((s k:Int):Rat)*e k k)
  have c:=hs k (by omega)
  have d:=he k (by omega)
  show rsz (iK s e k+((s k:Int):Rat)*e k k)<=_
  rw[Nat.succ_mul]
  omega
theorem wC (q:Nat->Rat) {k:Nat} (hk:k<4):((q k).den:Int) ∣ qI q:=by
 unfold qI
 have:k=0\/k=1\/k=2\/k=3:=by omega
 rcases this with rfl|rfl|rfl|rfl
 ·exact Int.dvd_mul_of_dvd_left (Int.dvd_mul_of_dvd_left (Int.dvd_mul_of_dvd_left (Int.dvd_mul_left _ _)))
 ·exact Int.dvd_mul_of_dvd_left (Int.dvd_mul_of_dvd_left (Int.dvd_mul_left _ _))
 ·exact Int.dvd_mul_of_dvd_left (Int.dvd_mul_left _ _)
 ·exact Int.dvd_mul_left _ _
theorem a1S {q:Nat->Rat} {K:Nat} (h:∀ k,k<4->rsz (q k)<=K):isz (qI q)<=4*K+1:=by
 unfold qI
 have h0:=h 0 (by omega)
 have h1:=h 1 (by omega)
 have h2:=h 2 (by omega)
 have h3:=h 3 (by omega)
 have d0:=cO (q 0)
 have d1:=cO (q 1)
 have d2:=cO (q 2)
 have d3:=cO (q 3)
 have m0:=eF 1 ((q 0).den:Int)
 have m1:=eF (1*((q 0).den:Int)) ((q 1).den:Int)
 have m2:=eF (1*((q 0).den:Int)*((q 1).den:Int)) ((q 2).den:Int)
 have m3:=eF (1*((q 0).den:Int)*((q 1).den:Int)*((q 2).den:Int)) ((q 3).den:Int)
 have z:isz 1<=1:=by decide +kernel
 omega
theorem JL {q:Nat->Rat} {K:Nat} (h:∀ k,k<4->rsz (q k)<=K) {k:Nat} (hk:k<4):isz (aV q k)<=5*K+1:=by
 unfold aV
 have h1:=eF (q k).num ((qI q).fdiv ((q k).den:Int))
 have h2:=qU (x:=qI q) (y:=((q k).den:Int)) (by have:=(q k).den_nz;omega) (wC q hk)
 have h3:=a1S h
 have h4:=dL (q k)
 have h5:=h k hk
 omega
theorem a5e (q:Nat->Rat):qI q≠0:=by
 unfold qI
 have h:∀ k,((q k).den:Int)≠0:=fun k=>by have:=(q k).den_nz;omega
 exact Int.mul_ne_zero (Int.mul_ne_zero (Int.mul_ne_zero (Int.mul_ne_zero (by omega) (h 0)) (h 1)) (h 2)) (h 3)
theorem NC {q:Nat->Rat} {k:Nat} (hk:k<4) (h:q k≠0):aV q k≠0:=by
 unfold aV
 refine Int.mul_ne_zero (fun e=>h (Rat.num_eq_zero.1 e)) (fun e=>?_)
 obtain⟨z,hz⟩:=wC q hk
 have hd:((q k).den:Int)≠0:=by have:=(q k).den_nz;omega
 rw[hz,Int.mul_fdiv_cancel_left _ hd] at e
 rw[e,Int.mul_zero] at hz
 exact a5e q hz
def dM (q:Nat->Rat):Nat->Int
 | 0=>1
 | k+1=>dM q k*((q k).den:Int)
theorem NK {q:Nat->Rat} {K:Nat} (h:∀ k,k<4->rsz (q k)<=K):∀ k,k<=4->isz (dM q k)<=k*K+1
 | 0,_=>by
  show isz 1<=_
  have:isz 1<=1:=by decide +kernel
  omega
 | k+1,hk=>by
  have ih:=NK h k (by omega)
  have m:=eF (dM q k) ((q k).den:Int)
  have a:=h k (by omega)
  have b:=cO (q k)
  show isz (dM q k*((q k).den:Int))<=_
  rw[Nat.succ_mul]
  omega
def dN (e:Nat->Nat->Rat):Nat->Nat->Rat
 | 0=>fun|0=>iK (xs4 1 1 1 0) e 3|1=>e 2 1-e 1 2|2=>e 0 2-e 2 0|_=>e 1 0-e 0 1
 | 1=>fun|0=>e 2 1-e 1 2|1=>iK (xs4 1 (-1) (-1) 0) e 3|2=>e 0 1+e 1 0|_=>e 0 2+e 2 0
 | 2=>fun|0=>e 0 2-e 2 0|1=>e 0 1+e 1 0|2=>iK (xs4 (-1) 1 (-1) 0) e 3|_=>e 1 2+e 2 1
 | _=>fun|0=>e 1 0-e 0 1|1=>e 0 2+e 2 0|2=>e 1 2+e 2 1|_=>iK (xs4 (-1) (-1) 1 0) e 3
theorem UM {e:Nat->Nat->Rat} {K:Nat} (h:∀ i j,i<3->j<3->rsz (e i j)<=K) (hK:K<=700000):∀ i k,k<4->rsz (dN e i k)<=50000000:=by
 have hs:∀ x y z:Int,(x=1\/x=-1)->(y=1\/y=-1)->(z=1\/z=-1)->rsz (iK (xs4 x y z 0) e 3)<=50000000:=fun x y z hx hy hz=>by
  have u:∀ x:Int,(x=1\/x=-1)->rsz ((x:Int):Rat)<=1:=fun x hx=>by rcases hx with e|e<;>rw[e]<;>decide +kernel
  have:=IY (s:=xs4 x y z 0) (e:=e) (K:=K) (fun k hk=>by
   obtain rfl|rfl|rfl:k=0\/k=1\/k=2:=by omega
   ·exact u x hx
   ·exact u y hy
   ·exact u z hz) (fun k hk=>h k k hk hk) 3 (by omega)
  omega
 have hm:∀ i j,i<3->j<3->rsz (e i j-e j i)<=50000000:=fun i j hi hj=>by have:=uG (e i j) (e j i);have:=h i j hi hj;have:=h j i hj hi;omega
 have hp:∀ i j,i<3->j<3->rsz (e i j+e j i)<=50000000:=fun i j hi hj=>by have:=mJ (e i j) (e j i);have:=h i j hi hj;have:=h j i hj hi;omega
 intro i k hk
 obtain rfl|rfl|rfl|rfl:k=0\/k=1\/k=2\/k=3:=by omega
 all_goals
  match i with
  | 0=>first|exact hs _ _ _ (by omega) (by omega) (by omega)|exact hm _ _ (by omega) (by omega)|exact hp _ _ (by omega) (by omega)
  | 1=>first|exact hs _ _ _ (by omega) (by omega) (by omega)|exact hm _ _ (by omega) (by omega)|exact hp _ _ (by omega) (by omega)
  | 2=>first|exact hs _ _ _ (by omega) (by omega) (by omega)|exact hm _ _ (by omega) (by omega)|exact hp _ _ (by omega) (by omega)
  | _+3=>first|exact hs _ _ _ (by omega) (by omega) (by omega)|exact hm _ _ (by omega) (by omega)|exact hp _ _ (by omega) (by omega)
def dS (a b c d:Int):Nat->Nat->Int
 | 0=>fun|0=>a*a+b*b-c*c-d*d|1=>2*(b*c-a*d)|_=>2*(b*d+a*c)
 | 1=>fun|0=>2*(b*c+a*d)|1=>a*a-b*b+c*c-d*d|_=>2*(c*d-a*b)
 | _=>fun|0=>2*(b*d-a*c)|1=>2*(c*d+a*b)|_=>a*a-b*b-c*c+d*d
def qF (a b c d:Int) (i j:Nat):Rat:=Rat.divInt (dS a b c d i j) (gW a b c d)
theorem a2T {a b c d:Int} (oa:okc a) (ob:okc b) (oc:okc c) (od:okc d) {i j:Nat} (hi:i<3) (hj:j<3):-8796093022208<=dS a b c d i j/\dS a b c d i j<=8796093022208:=by
 obtain⟨b8p,b8q⟩:=bP oa oa
 obtain⟨b8r,b8s⟩:=bP oa ob
 obtain⟨b8t,b8u⟩:=bP oa oc
 obtain⟨b8v,b8w⟩:=bP oa od
 obtain⟨b8x,b8y⟩:=bP ob ob
 obtain⟨b8z,b8A⟩:=bP ob oc
 obtain⟨b8B,b8C⟩:=bP ob od
 obtain⟨b8D,b8E⟩:=bP oc oc
 obtain⟨b8F,b8G⟩:=bP oc od
 obtain⟨b8H,b8I⟩:=bP od od
 obtain rfl|rfl|rfl:i=0\/i=1\/i=2:=by omega
 all_goals
  obtain rfl|rfl|rfl:j=0\/j=1\/j=2:=by omega
  all_goals
   simp only[dS]
   omega
theorem OI {xs:Nat->Int}:∀ k j,j<k->aO xs k ∣ xs j
 | 0,j,h=>by omega
 | k+1,j,h=>by
  show ((Int.gcd (aO xs k) (xs k):Nat):Int) ∣ xs j
  by_cases e:j=k
  ·subst e;exact Int.gcd_dvd_right ..
  ·exact Int.dvd_trans (Int.gcd_dvd_left ..) (OI k j (by omega))
theorem a5O {xs:Nat->Int} {j:Nat} (hj:j<4):kH xs ∣ xs j:=by
 unfold kH
 split
 ·exact Int.neg_dvd.2 (OI 4 j hj)
 ·exact OI 4 j hj
set_option maxRecDepth 20000
theorem iO {G:Prop} (V:Prop) (h:V=G) (v:V):G:=h ▸ v
abbrev asT (α:Type) (x:α):α:=x
abbrev aH (α:Type):List α:=[]
abbrev aB (n:Nat):Int:=(n:Int)
abbrev iJ (n:Int):Rat:=(n:Rat)
abbrev aA.{u} {α:Sort u} {p:α->Prop} (x:Subtype p):α:=x.1
abbrev tB:Ty:=.bool
abbrev nS:Ty:=.pair tI (.pair tI (.pair tI (.pair tI .unit)))
abbrev tM:Ty:=.list (.list tQ)
def cHI (pre:Int->Int->Int->Int->Prop) (g:Int->Int->Int->Int->Int):Ctr:=⟨[nS],[tI],fun x=>pre x.1.1 x.1.2.1 x.1.2.2.1 x.1.2.2.2.1,fun x=>(g x.1.1 x.1.2.1 x.1.2.2.1 x.1.2.2.2.1,())⟩
abbrev QC4:Type:=(Int × Int × Int × Int × Unit) × Int × Unit
def cHQ (pre:Int->Int->Int->Int->Prop) (g:Int->Int->Int->Int->QC4):Ctr:=⟨[nS],[nS,tI],fun x=>pre x.1.1 x.1.2.1 x.1.2.2.1 x.1.2.2.2.1,fun x=>g x.1.1 x.1.2.1 x.1.2.2.1 x.1.2.2.2.1⟩
def b1A (g:Int->Int->Int->Int->Int->Int->Int->Int->QC4):Ctr:=⟨[nS,nS],[nS,tI],fun x=>True,fun x=>g x.1.1 x.1.2.1 x.1.2.2.1 x.1.2.2.2.1 x.2.1.1 x.2.1.2.1 x.2.1.2.2.1 x.2.1.2.2.2.1⟩
def b1B (pre:Rat->Rat->Prop) (g:Rat->Rat->Bool):Ctr:=⟨[tQ,tQ],[tB],fun x=>pre x.1 x.2.1,fun x=>(g x.1 x.2.1,())⟩
theorem a3D {f:FuncId} {pre:Rat->Rat->Prop} {g:Rat->Rat->Bool} (h:∀ (v u:Value) (x y:Rat) (w:World),RQ w v x->RQ w u y->pre x y->Calls Tryz.prog f #[v,u] w (GB (g x y) w)):dG Tryz.prog f (b1B pre g):=by
 intro F w vs x hF hvs hp
 obtain⟨v,vs',rfl,h1,u,vs'',rfl,h2,h3⟩:=hvs
 have h3:vs''=[]:=h3
 subst h3
 refine(h v u x.1 x.2.1 w (vK h1) (vK h2) hp).mono ?_
 rintro e w' ⟨rfl,hb⟩
 exact⟨_,rfl,RJ _,hb⟩
def b1C (pre:Rat->Rat->Prop) (g:Rat->Rat->Int):Ctr:=⟨[tQ,tQ],[tI],fun x=>pre x.1 x.2.1,fun x=>(g x.1 x.2.1,())⟩
theorem a3E {f:FuncId} {pre:Rat->Rat->Prop} {g:Rat->Rat->Int} (h:∀ (v u:Value) (x y:Rat) (w:World),RQ w v x->RQ w u y->pre x y->Calls Tryz.prog f #[v,u] w (fun e w'=>e=.returned (.int .i64 (g x y))/\Below w.heap.size w w')):dG Tryz.prog f (b1C pre g):=by
 intro F w vs x hF hvs hp
 obtain⟨v,vs',rfl,h1,u,vs'',rfl,h2,h3⟩:=hvs
 have h3:vs''=[]:=h3
 subst h3
 refine(h v u x.1 x.2.1 w (vK h1) (vK h2) hp).mono ?_
 rintro e w' ⟨rfl,hb⟩
 exact⟨_,rfl,uI _,hb⟩
def cQI (pre:Rat->Prop) (g:Rat->Int):Ctr:=⟨[tQ],[tI],fun x=>pre x.1,fun x=>(g x.1,())⟩
theorem a6Y {f:FuncId} {pre:Rat->Prop} {g:Rat->Int} (h:∀ (v:Value) (x:Rat) (w:World),RQ w v x->pre x->Calls Tryz.prog f #[v] w (fun e w'=>e=.returned (.int .i64 (g x))/\Below w.heap.size w w')):dG Tryz.prog f (cQI pre g):=by
 intro F w vs x hF hvs hp
 obtain⟨v,vs',rfl,h1,h3⟩:=hvs
 have h3:vs'=[]:=h3
 subst h3
 refine(h v x.1 w (vK h1) hp).mono ?_
 rintro e w' ⟨rfl,hb⟩
 exact⟨_,rfl,uI _,hb⟩
def bW (i:Int):Prop:=-9223372036854775808<=i/\i<=9223372036854775807
def a6T:Ctr:=⟨[tI,tI],[tQ,tI],fun x=>bW x.1/\bW x.2.1/\(show Int from x.2.1)≠0,fun x=>(Rat.divInt x.1 x.2.1,(0:Int),())⟩
theorem ZJ {f:FuncId} (h:∀ (i k:Int) (w:World),-9223372036854775808<=i->i<=9223372036854775807->-9223372036854775808<=k->k<=9223372036854775807->k≠0->Calls Tryz.prog f #[.int .i64 i,.int .i64 k] w (GQC (Rat.divInt i k) 0 w)):dG Tryz.prog f a6T:=by
 intro F w vs x hF hvs hp
 obtain⟨v,vs',rfl,h1,u,vs'',rfl,h2,h3⟩:=hvs
 have h3:vs''=[]:=h3
 subst h3
 rw[a0s h1,a0s h2]
 refine(h _ _ w hp.1.1 hp.1.2 hp.2.1.1 hp.2.1.2 hp.2.2).mono ?_
 rintro e w' ⟨r,rfl,hr,hb⟩
 exact⟨_,rfl,⟨[_,_],rfl,_,_,rfl,a4O hr,_,_,rfl,uI _,rfl⟩,hb⟩
def cB (b:Bool):Ctr:=⟨[],[tB],fun x=>True,fun x=>(b,())⟩
def aX (xs:Nat->Int):QC4:=if JA xs then ((kW xs 0,kW xs 1,kW xs 2,kW xs 3,()),0,()) else ((0,0,0,0,()),3,())
def JR (a b c d:Int):QC4:=if dO a b c d=0 then aX (xs4 a (-b) (-c) (-d)) else ((0,0,0,0,()),dO a b c d,())
def uM (a b c d:Int):QC4:=if dO a b c d=0 then aX (xs4 a b c d) else ((0,0,0,0,()),dO a b c d,())
def SK (a b c d e f g h:Int):QC4:=if nO a b c d e f g h=0 then aX (b1m a b c d e f g h) else ((0,0,0,0,()),nO a b c d e f g h,())
noncomputable def LQ:Lib:=(((((((Lib.nil
 ).add 43 (cQ2 (fun x y=>rsz x<=190000000/\rsz y<=190000000) (·+·)) (MX fun v u x y w a b h=>UW v u x y w a b h.1 h.2)
 ).add 44 (cQ2 (fun x y=>rsz x<=190000000/\rsz y<=190000000) (·*·)) (MX fun v u x y w a b h=>a5Z v u x y w a b h.1 h.2)
 ).add 111 (cQ1 (fun x=>rsz x<=190000000) (fun x=>-x)) (a6X fun v x w a h=>UY v x w a (by omega))
 ).add 47 a6T (ZJ fun i k w h0 h1 h2 h3 hk=>a8M i k w h0 h1 h2 h3 hk)
 ).add 75 (b1B (fun x y=>rsz x<=190000000/\rsz y<=190000000) (fun x y=>decide (x=y))) (a3D fun v u x y w a b h=>VB v u x y w a b h.1 h.2)
 ).add 21 (b1B (fun x y=>rsz x<=190000000/\rsz y<=190000000) (fun x y=>decide (x=y))) (a3D fun v u x y w a b h=>YC v u x y w a b h.1 h.2)
 ).add 64 a6T (ZJ fun i k w h0 h1 h2 h3 hk=>b0r i k w h0 h1 h2 h3 hk)
set_option maxRecDepth 100000
set_option maxHeartbeats 400000
abbrev QL:Type:=List Rat
abbrev QM:Type:=List (List Rat)
def zM (xs:QL):Prop:=∀ q ∈ xs,rsz q<=190000000
def a9c (m:QM):Prop:=∀ r ∈ m,zM r
theorem zM.at_ {xs:QL} (h:zM xs) (i:Nat):rsz (xs.getD i 0)<=190000000:=by
 by_cases hi:i<xs.length
 ·rw[List.getD_eq_getElem?_getD,List.getElem?_eq_getElem hi,Option.getD_some]
  exact h _ (List.getElem_mem hi)
 ·rw[List.getD_eq_getElem?_getD,List.getElem?_eq_none (by omega),Option.getD_none,QW];omega
theorem a9c.at_ {m:QM} (h:a9c m) (i:Nat):zM (m.getD i []):=by
 by_cases hi:i<m.length
 ·rw[List.getD_eq_getElem?_getD,List.getElem?_eq_getElem hi,Option.getD_some]
  exact h _ (List.getElem_mem hi)
 ·rw[List.getD_eq_getElem?_getD,List.getElem?_eq_none (by omega),Option.getD_none]
  intro q hq;cases hq
theorem a6p {α:Type} {xs ys:List α} {i:Nat} (d:α) (h:xs.take i=ys.take i) (h1:i<xs.length) (h2:i<ys.length) (e:xs.getD i d=ys.getD i d):xs.take (i+1)=ys.take (i+1):=by
 rw[List.take_add_one,List.take_add_one,h]
 rw[List.getD_eq_getElem?_getD,List.getD_eq_getElem?_getD,List.getElem?_eq_getElem h1,List.getElem?_eq_getElem h2] at e
 rw[List.getElem?_eq_getElem h1,List.getElem?_eq_getElem h2]
 simp only[Option.getD_some] at e
 rw[e]
theorem dV {n:Int} (h0:-9223372036854775808<=n) (h1:n<=9223372036854775807):IntKind.wrap .i64 n=n:=by
 unfold IntKind.wrap
 simp only[IntKind.bits,IntKind.signed,Bool.true_and,decide_eq_true_eq,Nat.reduceSub,Int.reducePow,ge_iff_le]
 split<;>omega
abbrev b1v {α:Type} (xs ys:List α):Type:={i:Nat // xs.length=ys.length->i<=xs.length/\xs.take i=ys.take i}
def cSL:Ctr:=⟨[.list tQ,.list tQ],[tB],fun x=>zM x.1/\zM x.2.1/\(show QL from x.1).length<=1000000000,fun x=>((show QL from x.1)==(show QL from x.2.1),())⟩
theorem YJ:dG Tryz.prog 121 cSL:=by
 refine fF LQ [] Tryz.func121 rfl (by decide) (fun x=>[.inv (b1v (α:=Rat) x.1 x.2.1) (fun i=>[(5,.val tI (i.1:Int))]) (fun i=>[]) (fun i=>(show QL from x.1).length+1-i.1) ⟨0,fun h=>⟨Nat.zero_le _,rfl⟩⟩ (fun _=>[])]) (fun x hp=>?_)
 obtain⟨x,y,u⟩:=x
 change QL at x
 change QL at y
 refine iO (ifB (aB (List.length x) != aB (List.length y)) (True/\false=(x==y)/\True) ((asT Int 0=aB 0/\True)/\∀ (i:b1v x y),asT Bool true=true/\ifB (decide (aB (aA i)<aB (List.length x))) ((0<=aB (aA i)/\aB (aA i)<aB (List.length x)/\0<=aB (aA i)/\aB (aA i)<aB (List.length y)/\(rsz (List.getD x (Int.toNat (aB (aA i))) 0)<=190000000/\rsz (List.getD y (Int.toNat (aB (aA i))) 0)<=190000000)/\True)/\ifB (!decide (List.getD x (Int.toNat (aB (aA i))) 0=List.getD y (Int.toNat (aB (aA i))) 0)) (True/\false=(x==y)/\True) (∃ (i':b1v x y),List.length x+1-aA i'<List.length x+1-aA i/\IntKind.wrap IntKind.i64 (aB (aA i)+1)=aB (aA i')/\True)) (True/\true=(x==y)/\True))) (by kernel_rfl) ?_
 obtain⟨hx,hy,hl⟩:=hp
 dsimp only[aB,aA,asT] at *
 refine gU.2 ⟨fun h=>⟨trivial,?_,trivial⟩,fun h=>⟨⟨rfl,trivial⟩,fun i=>⟨rfl,gU.2 ⟨fun h1=>?_,fun h1=>⟨trivial,?_,trivial⟩⟩⟩⟩⟩
 ·simp only[bne_iff_ne,ne_eq,Int.natCast_inj] at h
  symm
  simp only[beq_eq_false_iff_ne]
  intro e;exact h (by rw[e])
 all_goals
  simp only[bne_eq_false_iff_eq,Int.natCast_inj] at h
  simp only[decide_eq_true_eq,decide_eq_false_iff_not,Int.ofNat_lt] at h1
  obtain⟨i,hi⟩:=i
  obtain⟨h2,h3⟩:=hi h
  dsimp only at h1 ⊢
 ·refine⟨⟨by omega,by omega,by omega,by omega,⟨hx.at_ _,hy.at_ _⟩,trivial⟩,gU.2 ⟨fun h4=>⟨trivial,?_,trivial⟩,fun h4=>?_⟩⟩
  ·simp only[Bool.not_eq_true',decide_eq_false_iff_not,Int.toNat_natCast] at h4
   symm
   simp only[beq_eq_false_iff_ne]
   intro e;exact h4 (by rw[e])
  ·simp only[Bool.not_eq_false',decide_eq_true_eq,Int.toNat_natCast] at h4
   refine⟨⟨i+1,fun _=>⟨h1,a6p 0 h3 h1 (by omega) h4⟩⟩,by simp only;omega,?_,trivial⟩
   rw[dV (by omega) (by omega)];rfl
 ·symm
  simp only[beq_iff_eq]
  have:i=x.length:=by omega
  rw[this,List.take_length,h,List.take_length] at h3
  exact h3
noncomputable def b7u:Lib:=LQ.add 24 (cIQ bW (fun i=>(i:Rat))) (a1O fun x w h=>JB x w h.1 h.2)
noncomputable def LS1:Lib:=b7u.add 121 cSL YJ
theorem YK:dG Tryz.prog 82 cSL:=by
 refine fF LS1 [] Tryz.func82 rfl (by decide) (fun x=>[]) (fun x hp=>?_)
 refine iO (((zM (asT (List Rat) (Prod.fst x))/\zM (asT (List Rat) (Prod.fst (Prod.snd x)))/\List.length (asT (List Rat) (Prod.fst x))<=1000000000)/\True)/\True/\(asT (List Rat) (Prod.fst x)==asT (List Rat) (Prod.fst (Prod.snd x)))=(asT (List Rat) (Prod.fst x)==asT (List Rat) (Prod.fst (Prod.snd x)))/\True) (by kernel_rfl) ?_
 obtain⟨x,y,u⟩:=x
 change QL at x
 change QL at y
 exact⟨⟨hp,trivial⟩,trivial,rfl,trivial⟩
noncomputable def LS2:Lib:=LS1.add 82 cSL YK
abbrev e2 (m:QM) (i j:Nat):Rat:=(m.getD i []).getD j 0
theorem jC {α:Type} {p:α->Prop} {xs:List α} (h:∀ x ∈ xs,p x) {i:Nat} (hi:i<xs.length) {d:α}:p (xs.getD i d):=by
 rw[List.getD_eq_getElem?_getD,List.getElem?_eq_getElem hi]
 exact h _ (List.getElem_mem hi)
abbrev Le3:Type:={i:Nat // i<=3}
set_option maxHeartbeats 1000000
abbrev tZ:Ty:=.lf .big
theorem rU {F:Nat->Prop} {w:World} {v:Value} {x:Int} (h:iZ F w tZ v x):bU w v x:=by
 obtain⟨cs,rfl,h2⟩:=h
 exact h2
theorem KL {F:Nat->Prop} {w:World} {v:Value} {x:Int} (h:bU w v x):iZ F w tZ v x:=by
 obtain⟨b,p,c,rfl,_⟩:=a3B h
 exact⟨_,rfl,h⟩
def cZ2 (g:Int->Int->Int):Ctr:=⟨[tZ,tZ],[tZ],fun x=>isz x.1<=1000000000/\isz x.2.1<=1000000000,fun x=>(g x.1 x.2.1,())⟩
theorem WI {f:FuncId} {g:Int->Int->Int} (h:∀ (v u:Value) (x y:Int) (w:World),Raw w v x->Raw w u y->isz x<=1000000000->isz y<=1000000000->Calls Tryz.prog f #[v,u] w (kP (g x y) w)):dG Tryz.prog f (cZ2 g):=by
 intro F w vs x hF hvs hp
 obtain⟨v,vs',rfl,h1,u,vs'',rfl,h2,h3⟩:=hvs
 have h3:vs''=[]:=h3
 subst h3
 refine(h v u x.1 x.2.1 w (rU h1).raw (rU h2).raw hp.1 hp.2).mono ?_
 rintro e w' ⟨r,rfl,hr,hb⟩
 exact⟨r,rfl,KL hr,hb⟩
def cZ1 (g:Int->Int):Ctr:=⟨[tZ],[tZ],fun x=>isz x.1<=1000000000,fun x=>(g x.1,())⟩
theorem a7b {f:FuncId} {g:Int->Int} (h:∀ (v:Value) (x:Int) (w:World),Raw w v x->isz x<=1000000000->Calls Tryz.prog f #[v] w (kP (g x) w)):dG Tryz.prog f (cZ1 g):=by
 intro F w vs x hF hvs hp
 obtain⟨v,vs',rfl,h1,h3⟩:=hvs
 have h3:vs'=[]:=h3
 subst h3
 refine(h v x.1 w (rU h1).raw hp).mono ?_
 rintro e w' ⟨r,rfl,hr,hb⟩
 exact⟨r,rfl,KL hr,hb⟩
def cIZ:Ctr:=⟨[tI],[tZ],fun x=>bW x.1,fun x=>(x.1,())⟩
theorem a6V {f:FuncId} (h:∀ (x:Int) (w:World),-9223372036854775808<=x->x<=9223372036854775807->Calls Tryz.prog f #[.int .i64 x] w (kP x w)):dG Tryz.prog f cIZ:=by
 intro F w vs x hF hvs hp
 obtain⟨v,vs',rfl,h1,h3⟩:=hvs
 have h3:vs'=[]:=h3
 subst h3
 rw[a0s h1]
 refine(h x.1 w hp.1 hp.2).mono ?_
 rintro e w' ⟨r,rfl,hr,hb⟩
 exact⟨r,rfl,KL hr,hb⟩
def cZI (g:Int->Int):Ctr:=⟨[tZ],[tI],fun x=>True,fun x=>(g x.1,())⟩
theorem b1E {f:FuncId} {g:Int->Int} (h:∀ (v:Value) (x:Int) (w:World),Raw w v x->Calls Tryz.prog f #[v] w (fun e w'=>e=.returned (.int .i64 (g x))/\Below w.heap.size w w')):dG Tryz.prog f (cZI g):=by
 intro F w vs x hF hvs hp
 obtain⟨v,vs',rfl,h1,h3⟩:=hvs
 have h3:vs'=[]:=h3
 subst h3
 refine(h v x.1 w (rU h1).raw).mono ?_
 rintro e w' ⟨rfl,hb⟩
 exact⟨_,rfl,uI _,hb⟩
def a7a:Ctr:=⟨[tZ],[tI,tB],fun x=>True,fun x=>(aG x.1,aN x.1,())⟩
theorem a4Y {f:FuncId} (h:∀ (v:Value) (x:Int) (w:World),Raw w v x->Calls Tryz.prog f #[v] w (fun e w'=>e=.returned (.tuple #[.int .i64 (aG x),.bool (aN x)])/\Below w.heap.size w w')):dG Tryz.prog f a7a:=by
 intro F w vs x hF hvs hp
 obtain⟨v,vs',rfl,h1,h3⟩:=hvs
 have h3:vs'=[]:=h3
 subst h3
 refine(h v x.1 w (rU h1).raw).mono ?_
 rintro e w' ⟨rfl,hb⟩
 exact⟨_,rfl,⟨[_,_],rfl,_,_,rfl,uI _,_,_,rfl,RJ _,rfl⟩,hb⟩
def cDiv:Ctr:=⟨[tZ,tZ],[tZ,tZ,tI],fun x=>isz x.1<=1000000000/\isz x.2.1<=1000000000/\(show Int from x.2.1)≠0,fun x=>(Int.fdiv x.1 x.2.1,Int.fmod x.1 x.2.1,(0:Int),())⟩
theorem a9w {f:FuncId} (h:∀ (v u:Value) (x y:Int) (w:World),Raw w v x->Raw w u y->isz x<=1000000000->isz y<=1000000000->y≠0->Calls Tryz.prog f #[v,u] w (MH (x.fdiv y) (x.fmod y) w)):dG Tryz.prog f cDiv:=by
 intro F w vs x hF hvs hp
 obtain⟨v,vs',rfl,h1,u,vs'',rfl,h2,h3⟩:=hvs
 have h3:vs''=[]:=h3
 subst h3
 refine(h v u x.1 x.2.1 w (rU h1).raw (rU h2).raw hp.1 hp.2.1 hp.2.2).mono ?_
 rintro e w' ⟨v1,v2,rfl,h1,h2,hb⟩
 exact⟨_,rfl,⟨[_,_,_],rfl,_,_,rfl,KL h1,_,_,rfl,KL h2,_,_,rfl,uI _,rfl⟩,hb⟩
noncomputable def LZ:Lib:=(((((((LS2
 ).add 69 cIZ (a6V fun x w h0 h1=>DC x w h0 h1)
 ).add 133 (cZ2 fun x y=>((Int.gcd x y:Nat):Int)) (WI fun v u x y w h1 h2 l1 l2=>LJ v u x y w h1 h2 l1 l2)
 ).add 71 (cZ2 fun x y=>x*y) (WI fun v u x y w h1 h2 l1 l2=>mul_any v u x y w h1 h2 l1 l2)
 ).add 134 (cZ1 fun x=>-x) (a7b fun v x w h1 l1=>tY v x w h1 l1)
 ).add 117 (cZI Int.sign) (b1E fun v x w h1=>vN v x w h1)
 ).add 135 a7a (a4Y fun v x w h1=>a6k v x w h1)
 ).add 110 cDiv (a9w fun v u x y w h1 h2 l1 l2 hy=>oK v u x y w h1 h2 l1 l2 hy)
def xsL (l:List Int) (k:Nat):Int:=l.getD k 0
def b0V:Ctr:=⟨[.arr 4 tZ],[nS,tI],fun x=>(show List Int from x.1).length=4/\(∀ j,j<4->isz (xsL x.1 j)<=400000000)/\∃ j,j<4/\xsL x.1 j≠0,fun x=>aX (xsL x.1)⟩
abbrev Le4:Type:={i:Nat // i<=4}
theorem bad_eq (q:Int):(bif (bif !aN q then true else decide (aG q < -1048576)) then true else decide (aG q > 1048576))=!decide (okc q):=by
 by_cases h:okc q
 ·have h':=h
  unfold okc at h'
  have e1:aN q=true:=by unfold aN;rw[decide_eq_true_eq];omega
  have e2:aG q=q:=by unfold aG;rw[if_pos (by omega)]
  have a1:decide (q < -1048576)=false:=decide_eq_false (by omega)
  have a2:decide (q > 1048576)=false:=decide_eq_false (by omega)
  rw[e1,e2,a1,a2,decide_eq_true h];rfl
 ·by_cases hs:aN q=true
  ·have hs':=hs
   unfold aN at hs'
   rw[decide_eq_true_eq] at hs'
   have e2:aG q=q:=by unfold aG;rw[if_pos hs']
   have h3:q < -1048576\/q > 1048576:=by unfold okc at h;omega
   rw[hs,e2,decide_eq_false h]
   rcases h3 with h3|h3
   ·rw[decide_eq_true h3];rfl
   ·rw[decide_eq_true h3];cases decide (q < -1048576)<;>rfl
  ·have hs:=Bool.not_eq_true _ |>.mp hs
   rw[hs,decide_eq_false h];rfl
theorem sG {q:Int} (h:okc q):aG q=q:=by
 unfold okc at h
 unfold aG
 rw[if_pos (by omega)]
theorem SL:dG Tryz.prog 93 b0V:=by
 refine fF LZ [2,4,5,7,8,10,11,12] Tryz.func93 rfl (by decide) (fun x=>[.inv Le4 (fun k=>[(17,.val tI (k.1:Int))]) (fun k=>[(2,.box [⟨tI,(0:Int)⟩,⟨tI,(0:Int)⟩,⟨tI,(0:Int)⟩,⟨tI,(0:Int)⟩]),(4,.box [⟨tZ,aO (xsL x.1) k.1⟩]),(5,.box [⟨tZ,kL (xsL x.1) k.1⟩])]) (fun k=>4-k.1) ⟨0,by omega⟩ (fun _=>[]),.turns 5 [34] [2,4,5,8] []]) (fun x hp=>?_)
 obtain⟨x,u⟩:=x
 change List Int at x
 refine iO (let x0z:=(True/\(0,0,0,0,())=Prod.fst (aX (xsL x))/\True/\3=Prod.fst (Prod.snd (aX (xsL x)))/\True);let x1z:=(List.getD x 0 0);let x2z:=(List.getD x 1 0);let x3z:=(List.getD x 2 0);let x4z:=(List.getD x 3 0);(asT Int 0=0/\asT Int 0=0/\asT Int 0=0/\asT Int 0=0/\asT Int 0=0/\0=aO (xsL x) 0/\0=kL (xsL x) 0/\True)/\∀ (i:Le4),asT Bool true=true/\ifB (decide (aB (aA i)<4)) ((0<=aB (aA i)/\aB (aA i)<4/\True)/\((isz (aO (xsL x) (aA i))<=1000000000/\isz (List.getD x (Int.toNat (aB (aA i))) 0)<=1000000000)/\True)/\(True/\True)/\ifB (Int.sign (kL (xsL x) (aA i))==0) (∃ (i':Le4),4-aA i'<4-aA i/\IntKind.wrap IntKind.i64 (aB (aA i)+1)=aB (aA i')/\asT Int 0=0/\asT Int 0=0/\asT Int 0=0/\asT Int 0=0/\aB (Int.gcd (aO (xsL x) (aA i)) (List.getD x (Int.toNat (aB (aA i))) 0))=aO (xsL x) (aA i')/\List.getD x (Int.toNat (aB (aA i))) 0=kL (xsL x) (aA i')/\True) (∃ (i':Le4),4-aA i'<4-aA i/\IntKind.wrap IntKind.i64 (aB (aA i)+1)=aB (aA i')/\asT Int 0=0/\asT Int 0=0/\asT Int 0=0/\asT Int 0=0/\aB (Int.gcd (aO (xsL x) (aA i)) (List.getD x (Int.toNat (aB (aA i))) 0))=aO (xsL x) (aA i')/\kL (xsL x) (aA i)=kL (xsL x) (aA i')/\True)) ((True/\True)/\ifB (decide (Int.sign (kL (xsL x) (aA i))<0)) ((isz (aO (xsL x) (aA i))<=1000000000/\True)/\(asT Int 0<=0/\asT Int 0<4/\True)/\((isz x1z<=1000000000/\isz (-aO (xsL x) (aA i))<=1000000000/\-aO (xsL x) (aA i)≠0)/\True)/\(True/\True)/\((((!aN (Int.fdiv x1z (-aO (xsL x) (aA i))))==false)=true->((!aN (Int.fdiv x1z (-aO (xsL x) (aA i))))==false)=true/\True)/\((!aN (Int.fdiv x1z (-aO (xsL x) (aA i))))=false->((!aN (Int.fdiv x1z (-aO (xsL x) (aA i))))==false)=true)/\(((bif !aN (Int.fdiv x1z (-aO (xsL x) (aA i))) then true else decide (aG (Int.fdiv x1z (-aO (xsL x) (aA i))) < -1048576))==false)=true->((bif !aN (Int.fdiv x1z (-aO (xsL x) (aA i))) then true else decide (aG (Int.fdiv x1z (-aO (xsL x) (aA i))) < -1048576))==false)=true/\True)/\((bif !aN (Int.fdiv x1z (-aO (xsL x) (aA i))) then true else decide (aG (Int.fdiv x1z (-aO (xsL x) (aA i))) < -1048576))=false->((bif !aN (Int.fdiv x1z (-aO (xsL x) (aA i))) then true else decide (aG (Int.fdiv x1z (-aO (xsL x) (aA i))) < -1048576))==false)=true)/\True)/\ifB (bif bif !aN (Int.fdiv x1z (-aO (xsL x) (aA i))) then true else decide (aG (Int.fdiv x1z (-aO (xsL x) (aA i))) < -1048576) then true else decide (aG (Int.fdiv x1z (-aO (xsL x) (aA i))) > 1048576)) x0z ((asT Int 0=0/\asT Int 0=0/\asT Int 0=0/\asT Int 0=0/\-aO (xsL x) (aA i)=-aO (xsL x) (aA i)/\kL (xsL x) (aA i)=kL (xsL x) (aA i)/\aG (Int.fdiv x1z (-aO (xsL x) (aA i)))=aG (Int.fdiv x1z (-aO (xsL x) (aA i)))/\asT Int 0=0/\asT Int 0=0/\asT Int 0=0/\True)/\asT Bool true=true/\(asT Int 0<=1/\asT Int 1<4/\True)/\((isz x2z<=1000000000/\isz (-aO (xsL x) (aA i))<=1000000000/\-aO (xsL x) (aA i)≠0)/\True)/\(True/\True)/\((((!aN (Int.fdiv x2z (-aO (xsL x) (aA i))))==false)=true->((!aN (Int.fdiv x2z (-aO (xsL x) (aA i))))==false)=true/\True)/\((!aN (Int.fdiv x2z (-aO (xsL x) (aA i))))=false->((!aN (Int.fdiv x2z (-aO (xsL x) (aA i))))==false)=true)/\(((bif !aN (Int.fdiv x2z (-aO (xsL x) (aA i))) then true else decide (aG (Int.fdiv x2z (-aO (xsL x) (aA i))) < -1048576))==false)=true->((bif !aN (Int.fdiv x2z (-aO (xsL x) (aA i))) then true else decide (aG (Int.fdiv x2z (-aO (xsL x) (aA i))) < -1048576))==false)=true/\True)/\((bif !aN (Int.fdiv x2z (-aO (xsL x) (aA i))) then true else decide (aG (Int.fdiv x2z (-aO (xsL x) (aA i))) < -1048576))=false->((bif !aN (Int.fdiv x2z (-aO (xsL x) (aA i))) then true else decide (aG (Int.fdiv x2z (-aO (xsL x) (aA i))) < -1048576))==false)=true)/\True)/\ifB (bif bif !aN (Int.fdiv x2z (-aO (xsL x) (aA i))) then true else decide (aG (Int.fdiv x2z (-aO (xsL x) (aA i))) < -1048576) then true else decide (aG (Int.fdiv x2z (-aO (xsL x) (aA i))) > 1048576)) x0z ((asT Int 0=0/\asT Int 0=0/\asT Int 0=0/\asT Int 0=0/\-aO (xsL x) (aA i)=-aO (xsL x) (aA i)/\kL (xsL x) (aA i)=kL (xsL x) (aA i)/\aG (Int.fdiv x1z (-aO (xsL x) (aA i)))=aG (Int.fdiv x1z (-aO (xsL x) (aA i)))/\aG (Int.fdiv x2z (-aO (xsL x) (aA i)))=aG (Int.fdiv x2z (-aO (xsL x) (aA i)))/\asT Int 0=0/\asT Int 0=0/\True)/\asT Bool true=true/\(asT Int 0<=2/\asT Int 2<4/\True)/\((isz x3z<=1000000000/\isz (-aO (xsL x) (aA i))<=1000000000/\-aO (xsL x) (aA i)≠0)/\True)/\(True/\True)/\((((!aN (Int.fdiv x3z (-aO (xsL x) (aA i))))==false)=true->((!aN (Int.fdiv x3z (-aO (xsL x) (aA i))))==false)=true/\True)/\((!aN (Int.fdiv x3z (-aO (xsL x) (aA i))))=false->((!aN (Int.fdiv x3z (-aO (xsL x) (aA i))))==false)=true)/\(((bif !aN (Int.fdiv x3z (-aO (xsL x) (aA i))) then true else decide (aG (Int.fdiv x3z (-aO (xsL x) (aA i))) < -1048576))==false)=true->((bif !aN (Int.fdiv x3z (-aO (xsL x) (aA i))) then true else decide (aG (Int.fdiv x3z (-aO (xsL x) (aA i))) < -1048576))==false)=true/\True)/\((bif !aN (Int.fdiv x3z (-aO (xsL x) (aA i))) then true else decide (aG (Int.fdiv x3z (-aO (xsL x) (aA i))) < -1048576))=false->((bif !aN (Int.fdiv x3z (-aO (xsL x) (aA i))) then true else decide (aG (Int.fdiv x3z (-aO (xsL x) (aA i))) < -1048576))==false)=true)/\True)/\ifB (bif bif !aN (Int.fdiv x3z (-aO (xsL x) (aA i))) then true else decide (aG (Int.fdiv x3z (-aO (xsL x) (aA i))) < -1048576) then true else decide (aG (Int.fdiv x3z (-aO (xsL x) (aA i))) > 1048576)) x0z ((asT Int 0=0/\asT Int 0=0/\asT Int 0=0/\asT Int 0=0/\-aO (xsL x) (aA i)=-aO (xsL x) (aA i)/\kL (xsL x) (aA i)=kL (xsL x) (aA i)/\aG (Int.fdiv x1z (-aO (xsL x) (aA i)))=aG (Int.fdiv x1z (-aO (xsL x) (aA i)))/\aG (Int.fdiv x2z (-aO (xsL x) (aA i)))=aG (Int.fdiv x2z (-aO (xsL x) (aA i)))/\aG (Int.fdiv x3z (-aO (xsL x) (aA i)))=aG (Int.fdiv x3z (-aO (xsL x) (aA i)))/\asT Int 0=0/\True)/\asT Bool true=true/\(asT Int 0<=3/\asT Int 3<4/\True)/\((isz x4z<=1000000000/\isz (-aO (xsL x) (aA i))<=1000000000/\-aO (xsL x) (aA i)≠0)/\True)/\(True/\True)/\((((!aN (Int.fdiv x4z (-aO (xsL x) (aA i))))==false)=true->((!aN (Int.fdiv x4z (-aO (xsL x) (aA i))))==false)=true/\True)/\((!aN (Int.fdiv x4z (-aO (xsL x) (aA i))))=false->((!aN (Int.fdiv x4z (-aO (xsL x) (aA i))))==false)=true)/\(((bif !aN (Int.fdiv x4z (-aO (xsL x) (aA i))) then true else decide (aG (Int.fdiv x4z (-aO (xsL x) (aA i))) < -1048576))==false)=true->((bif !aN (Int.fdiv x4z (-aO (xsL x) (aA i))) then true else decide (aG (Int.fdiv x4z (-aO (xsL x) (aA i))) < -1048576))==false)=true/\True)/\((bif !aN (Int.fdiv x4z (-aO (xsL x) (aA i))) then true else decide (aG (Int.fdiv x4z (-aO (xsL x) (aA i))) < -1048576))=false->((bif !aN (Int.fdiv x4z (-aO (xsL x) (aA i))) then true else decide (aG (Int.fdiv x4z (-aO (xsL x) (aA i))) < -1048576))==false)=true)/\True)/\ifB (bif bif !aN (Int.fdiv x4z (-aO (xsL x) (aA i))) then true else decide (aG (Int.fdiv x4z (-aO (xsL x) (aA i))) < -1048576) then true else decide (aG (Int.fdiv x4z (-aO (xsL x) (aA i))) > 1048576)) x0z ((asT Int 0=0/\asT Int 0=0/\asT Int 0=0/\asT Int 0=0/\-aO (xsL x) (aA i)=-aO (xsL x) (aA i)/\kL (xsL x) (aA i)=kL (xsL x) (aA i)/\aG (Int.fdiv x1z (-aO (xsL x) (aA i)))=aG (Int.fdiv x1z (-aO (xsL x) (aA i)))/\aG (Int.fdiv x2z (-aO (xsL x) (aA i)))=aG (Int.fdiv x2z (-aO (xsL x) (aA i)))/\aG (Int.fdiv x3z (-aO (xsL x) (aA i)))=aG (Int.fdiv x3z (-aO (xsL x) (aA i)))/\aG (Int.fdiv x4z (-aO (xsL x) (aA i)))=aG (Int.fdiv x4z (-aO (xsL x) (aA i)))/\True)/\asT Bool true=true/\True/\(aG (Int.fdiv x1z (-aO (xsL x) (aA i))),aG (Int.fdiv x2z (-aO (xsL x) (aA i))),aG (Int.fdiv x3z (-aO (xsL x) (aA i))),aG (Int.fdiv x4z (-aO (xsL x) (aA i))),())=Prod.fst (aX (xsL x))/\True/\0=Prod.fst (Prod.snd (aX (xsL x)))/\True))))) ((asT Int 0<=0/\asT Int 0<4/\True)/\((isz x1z<=1000000000/\isz (aO (xsL x) (aA i))<=1000000000/\aO (xsL x) (aA i)≠0)/\True)/\(True/\True)/\((((!aN (Int.fdiv x1z (aO (xsL x) (aA i))))==false)=true->((!aN (Int.fdiv x1z (aO (xsL x) (aA i))))==false)=true/\True)/\((!aN (Int.fdiv x1z (aO (xsL x) (aA i))))=false->((!aN (Int.fdiv x1z (aO (xsL x) (aA i))))==false)=true)/\(((bif !aN (Int.fdiv x1z (aO (xsL x) (aA i))) then true else decide (aG (Int.fdiv x1z (aO (xsL x) (aA i))) < -1048576))==false)=true->((bif !aN (Int.fdiv x1z (aO (xsL x) (aA i))) then true else decide (aG (Int.fdiv x1z (aO (xsL x) (aA i))) < -1048576))==false)=true/\True)/\((bif !aN (Int.fdiv x1z (aO (xsL x) (aA i))) then true else decide (aG (Int.fdiv x1z (aO (xsL x) (aA i))) < -1048576))=false->((bif !aN (Int.fdiv x1z (aO (xsL x) (aA i))) then true else decide (aG (Int.fdiv x1z (aO (xsL x) (aA i))) < -1048576))==false)=true)/\True)/\ifB (bif bif !aN (Int.fdiv x1z (aO (xsL x) (aA i))) then true else decide (aG (Int.fdiv x1z (aO (xsL x) (aA i))) < -1048576) then true else decide (aG (Int.fdiv x1z (aO (xsL x) (aA i))) > 1048576)) x0z ((asT Int 0=0/\asT Int 0=0/\asT Int 0=0/\asT Int 0=0/\aO (xsL x) (aA i)=aO (xsL x) (aA i)/\kL (xsL x) (aA i)=kL (xsL x) (aA i)/\aG (Int.fdiv x1z (aO (xsL x) (aA i)))=aG (Int.fdiv x1z (aO (xsL x) (aA i)))/\asT Int 0=0/\asT Int 0=0/\asT Int 0=0/\True)/\asT Bool true=true/\(asT Int 0<=1/\asT Int 1<4/\True)/\((isz x2z<=1000000000/\isz (aO (xsL x) (aA i))<=1000000000/\aO (xsL x) (aA i)≠0)/\True)/\(True/\True)/\((((!aN (Int.fdiv x2z (aO (xsL x) (aA i))))==false)=true->((!aN (Int.fdiv x2z (aO (xsL x) (aA i))))==false)=true/\True)/\((!aN (Int.fdiv x2z (aO (xsL x) (aA i))))=false->((!aN (Int.fdiv x2z (aO (xsL x) (aA i))))==false)=true)/\(((bif !aN (Int.fdiv x2z (aO (xsL x) (aA i))) then true else decide (aG (Int.fdiv x2z (aO (xsL x) (aA i))) < -1048576))==false)=true->((bif !aN (Int.fdiv x2z (aO (xsL x) (aA i))) then true else decide (aG (Int.fdiv x2z (aO (xsL x) (aA i))) < -1048576))==false)=true/\True)/\((bif !aN (Int.fdiv x2z (aO (xsL x) (aA i))) then true else decide (aG (Int.fdiv x2z (aO (xsL x) (aA i))) < -1048576))=false->((bif !aN (Int.fdiv x2z (aO (xsL x) (aA i))) then true else decide (aG (Int.fdiv x2z (aO (xsL x) (aA i))) < -1048576))==false)=true)/\True)/\ifB (bif bif !aN (Int.fdiv x2z (aO (xsL x) (aA i))) then true else decide (aG (Int.fdiv x2z (aO (xsL x) (aA i))) < -1048576) then true else decide (aG (Int.fdiv x2z (aO (xsL x) (aA i))) > 1048576)) x0z ((asT Int 0=0/\asT Int 0=0/\asT Int 0=0/\asT Int 0=0/\aO (xsL x) (aA i)=aO (xsL x) (aA i)/\kL (xsL x) (aA i)=kL (xsL x) (aA i)/\aG (Int.fdiv x1z (aO (xsL x) (aA i)))=aG (Int.fdiv x1z (aO (xsL x) (aA i)))/\aG (Int.fdiv x2z (aO (xsL x) (aA i)))=aG (Int.fdiv x2z (aO (xsL x) (aA i)))/\asT Int 0=0/\asT Int 0=0/\True)/\asT Bool true=true/\(asT Int 0<=2/\asT Int 2<4/\True)/\((isz x3z<=1000000000/\isz (aO (xsL x) (aA i))<=1000000000/\aO (xsL x) (aA i)≠0)/\True)/\(True/\True)/\((((!aN (Int.fdiv x3z (aO (xsL x) (aA i))))==false)=true->((!aN (Int.fdiv x3z (aO (xsL x) (aA i))))==false)=true/\True)/\((!aN (Int.fdiv x3z (aO (xsL x) (aA i))))=false->((!aN (Int.fdiv x3z (aO (xsL x) (aA i))))==false)=true)/\(((bif !aN (Int.fdiv x3z (aO (xsL x) (aA i))) then true else decide (aG (Int.fdiv x3z (aO (xsL x) (aA i))) < -1048576))==false)=true->((bif !aN (Int.fdiv x3z (aO (xsL x) (aA i))) then true else decide (aG (Int.fdiv x3z (aO (xsL x) (aA i))) < -1048576))==false)=true/\True)/\((bif !aN (Int.fdiv x3z (aO (xsL x) (aA i))) then true else decide (aG (Int.fdiv x3z (aO (xsL x) (aA i))) < -1048576))=false->((bif !aN (Int.fdiv x3z (aO (xsL x) (aA i))) then true else decide (aG (Int.fdiv x3z (aO (xsL x) (aA i))) < -1048576))==false)=true)/\True)/\ifB (bif bif !aN (Int.fdiv x3z (aO (xsL x) (aA i))) then true else decide (aG (Int.fdiv x3z (aO (xsL x) (aA i))) < -1048576) then true else decide (aG (Int.fdiv x3z (aO (xsL x) (aA i))) > 1048576)) x0z ((asT Int 0=0/\asT Int 0=0/\asT Int 0=0/\asT Int 0=0/\aO (xsL x) (aA i)=aO (xsL x) (aA i)/\kL (xsL x) (aA i)=kL (xsL x) (aA i)/\aG (Int.fdiv x1z (aO (xsL x) (aA i)))=aG (Int.fdiv x1z (aO (xsL x) (aA i)))/\aG (Int.fdiv x2z (aO (xsL x) (aA i)))=aG (Int.fdiv x2z (aO (xsL x) (aA i)))/\aG (Int.fdiv x3z (aO (xsL x) (aA i)))=aG (Int.fdiv x3z (aO (xsL x) (aA i)))/\asT Int 0=0/\True)/\asT Bool true=true/\(asT Int 0<=3/\asT Int 3<4/\True)/\((isz x4z<=1000000000/\isz (aO (xsL x) (aA i))<=1000000000/\aO (xsL x) (aA i)≠0)/\True)/\(True/\True)/\((((!aN (Int.fdiv x4z (aO (xsL x) (aA i))))==false)=true->((!aN (Int.fdiv x4z (aO (xsL x) (aA i))))==false)=true/\True)/\((!aN (Int.fdiv x4z (aO (xsL x) (aA i))))=false->((!aN (Int.fdiv x4z (aO (xsL x) (aA i))))==false)=true)/\(((bif !aN (Int.fdiv x4z (aO (xsL x) (aA i))) then true else decide (aG (Int.fdiv x4z (aO (xsL x) (aA i))) < -1048576))==false)=true->((bif !aN (Int.fdiv x4z (aO (xsL x) (aA i))) then true else decide (aG (Int.fdiv x4z (aO (xsL x) (aA i))) < -1048576))==false)=true/\True)/\((bif !aN (Int.fdiv x4z (aO (xsL x) (aA i))) then true else decide (aG (Int.fdiv x4z (aO (xsL x) (aA i))) < -1048576))=false->((bif !aN (Int.fdiv x4z (aO (xsL x) (aA i))) then true else decide (aG (Int.fdiv x4z (aO (xsL x) (aA i))) < -1048576))==false)=true)/\True)/\ifB (bif bif !aN (Int.fdiv x4z (aO (xsL x) (aA i))) then true else decide (aG (Int.fdiv x4z (aO (xsL x) (aA i))) < -1048576) then true else decide (aG (Int.fdiv x4z (aO (xsL x) (aA i))) > 1048576)) x0z ((asT Int 0=0/\asT Int 0=0/\asT Int 0=0/\asT Int 0=0/\aO (xsL x) (aA i)=aO (xsL x) (aA i)/\kL (xsL x) (aA i)=kL (xsL x) (aA i)/\aG (Int.fdiv x1z (aO (xsL x) (aA i)))=aG (Int.fdiv x1z (aO (xsL x) (aA i)))/\aG (Int.fdiv x2z (aO (xsL x) (aA i)))=aG (Int.fdiv x2z (aO (xsL x) (aA i)))/\aG (Int.fdiv x3z (aO (xsL x) (aA i)))=aG (Int.fdiv x3z (aO (xsL x) (aA i)))/\aG (Int.fdiv x4z (aO (xsL x) (aA i)))=aG (Int.fdiv x4z (aO (xsL x) (aA i)))/\True)/\asT Bool true=true/\True/\(aG (Int.fdiv x1z (aO (xsL x) (aA i))),aG (Int.fdiv x2z (aO (xsL x) (aA i))),aG (Int.fdiv x3z (aO (xsL x) (aA i))),aG (Int.fdiv x4z (aO (xsL x) (aA i))),())=Prod.fst (aX (xsL x))/\True/\0=Prod.fst (Prod.snd (aX (xsL x)))/\True))))))) (by kernel_rfl) ?_
 obtain⟨hl,hb,hn⟩:=hp
 dsimp only[aB,aA,asT,aH,iJ] at *
 simp only[bad_eq,gU,true_and,and_true,imp_self,Bool.not_eq_true',Bool.not_eq_false',decide_eq_true_eq,decide_eq_false_iff_not,Int.toNat_natCast,true_implies,implies_true,beq_iff_eq,bne_iff_ne,ne_eq,beq_eq_false_iff_ne,bne_eq_false_iff_eq]
 have hx:∀ j,x.getD j 0=xsL x j:=fun _=>rfl
 simp only[hx]
 generalize xsL x=X at *
 have gs:∀ k,k<=4->isz (aO X k)<=1000000000:=fun k hk=>Nat.le_trans (EJ (K:=400000000) k (fun j hj=>hb j (by omega))) (by omega)
 have xs:∀ j,j<4->isz (X j)<=1000000000:=fun j hj=>Nat.le_trans (hb j hj) (by omega)
 refine⟨⟨rfl,rfl⟩,fun i=>⟨fun h1=>?_,fun h1=>?_⟩⟩
 ·have hi:=i.2
  refine⟨⟨by omega,by omega⟩,⟨gs _ hi,xs _ (by omega)⟩,fun h2=>⟨⟨i.1+1,by omega⟩,by simp only;omega,?_,rfl,?_⟩,fun h2=>⟨⟨i.1+1,by omega⟩,by simp only;omega,?_,rfl,?_⟩⟩
  ·rw[dV (by omega) (by omega)];rfl
  ·rw[Int.sign_eq_zero_iff_zero] at h2
   simp only[kL,if_pos h2]
  ·rw[dV (by omega) (by omega)];rfl
  ·rw[Int.sign_eq_zero_iff_zero] at h2
   simp only[kL,if_neg h2]
 ·have hi:=i.2
  have hi:i.1=4:=by omega
  rw[hi]
  have g0:kH X≠0:=by obtain⟨j,h1,h2⟩:=hn;exact a0K h1 h2
  have tl:∀ G,kH X=G->isz G<=1000000000->(∀ j,j<4->¬ okc ((X j).fdiv G)->(0,0,0,0,())=(aX X).1/\3=(aX X).2.1)/\(okc ((X 0).fdiv G)->okc ((X 1).fdiv G)->okc ((X 2).fdiv G)->okc ((X 3).fdiv G)->(aG ((X 0).fdiv G),aG ((X 1).fdiv G),aG ((X 2).fdiv G),aG ((X 3).fdiv G),())=(aX X).1/\0=(aX X).2.1):=by
   rintro G rfl hG
   refine⟨fun j hj h=>?_,fun k0 k1 k2 k3=>?_⟩
   ·have:aX X=((0,0,0,0,()),3,()):=if_neg (fun e=>h (e j hj))
    rw[this];exact⟨rfl,rfl⟩
   ·have:aX X=((kW X 0,kW X 1,kW X 2,kW X 3,()),0,()):=if_pos (fun j hj=>by
     match j,hj with
     | 0,_=>exact k0
     | 1,_=>exact k1
     | 2,_=>exact k2
     | 3,_=>exact k3)
    rw[this,sG k0,sG k1,sG k2,sG k3];exact⟨rfl,rfl⟩
  have g4:=gs 4 (by omega)
  refine⟨fun h2=>?_,fun h2=>?_⟩
  ·rw[Int.sign_neg_iff] at h2
   have hG:kH X=-aO X 4:=if_pos h2
   have g5:isz (-aO X 4)<=1000000000:=by rw[mG];exact g4
   obtain⟨no,yes⟩:=tl _ hG g5
   rw[hG] at g0
   exact⟨g4,⟨by omega,by omega⟩,⟨xs 0 (by omega),g5,g0⟩,no 0 (by omega),fun k0=>⟨⟨by omega,by omega⟩,⟨xs 1 (by omega),g5,g0⟩,no 1 (by omega),fun k1=>⟨⟨by omega,by omega⟩,⟨xs 2 (by omega),g5,g0⟩,no 2 (by omega),fun k2=>⟨⟨by omega,by omega⟩,⟨xs 3 (by omega),g5,g0⟩,no 3 (by omega),fun k3=>yes k0 k1 k2 k3⟩⟩⟩⟩
  ·rw[Int.sign_neg_iff] at h2
   have hG:kH X=aO X 4:=if_neg h2
   obtain⟨no,yes⟩:=tl _ hG g4
   rw[hG] at g0
   exact⟨⟨by omega,by omega⟩,⟨xs 0 (by omega),g4,g0⟩,no 0 (by omega),fun k0=>⟨⟨by omega,by omega⟩,⟨xs 1 (by omega),g4,g0⟩,no 1 (by omega),fun k1=>⟨⟨by omega,by omega⟩,⟨xs 2 (by omega),g4,g0⟩,no 2 (by omega),fun k2=>⟨⟨by omega,by omega⟩,⟨xs 3 (by omega),g4,g0⟩,no 3 (by omega),fun k3=>yes k0 k1 k2 k3⟩⟩⟩⟩
noncomputable def LP:Lib:=LZ.add 93 b0V SL
def a6W:Ctr:=⟨[nS],[.arr 4 tI],fun x=>True,fun x=>([x.1.1,x.1.2.1,x.1.2.2.1,x.1.2.2.2.1],())⟩
theorem a5N:dG Tryz.prog 81 a6W:=by
 refine fF LP [2] Tryz.func81 rfl (by decide) (fun x=>[]) (fun x hp=>?_)
 obtain⟨⟨a,b,c,d,v⟩,u⟩:=x
 change Int at a;change Int at b;change Int at c;change Int at d
 refine iO (True/\a::b::c::d::aH Int=a::b::c::d::aH Int/\True) (by kernel_rfl) ?_
 exact⟨trivial,rfl,trivial⟩
noncomputable def LB1:Lib:=LP.add 81 a6W a5N
theorem a5d:dG Tryz.prog 28 (cHI (fun _ _ _ _=>True) dO):=by
 refine fF LB1 [] Tryz.func28 rfl (by decide) (fun x=>[.rounds 5 [10] []]) (fun x hp=>?_)
 obtain⟨⟨a,b,c,d,v⟩,u⟩:=x
 change Int at a;change Int at b;change Int at c;change Int at d
 refine iO (ifB (eqI a 0&&(eqI b 0&&(eqI c 0&&(eqI d 0&&true)))) (True/\1=dO a b c d/\True) ((True/\True)/\(asT Int 0<=0/\asT Int 0<4/\True)/\(((decide (a < -1048576)==false)=true->(decide (a < -1048576)==false)=true/\True)/\(decide (a < -1048576)=false->(decide (a < -1048576)==false)=true)/\True)/\ifB (bif decide (a < -1048576) then true else decide (a > 1048576)) (True/\3=dO a b c d/\True) ((asT Int 0<=1/\asT Int 1<4/\True)/\(((decide (b < -1048576)==false)=true->(decide (b < -1048576)==false)=true/\True)/\(decide (b < -1048576)=false->(decide (b < -1048576)==false)=true)/\True)/\ifB (bif decide (b < -1048576) then true else decide (b > 1048576)) (True/\3=dO a b c d/\True) ((asT Int 0<=2/\asT Int 2<4/\True)/\(((decide (c < -1048576)==false)=true->(decide (c < -1048576)==false)=true/\True)/\(decide (c < -1048576)=false->(decide (c < -1048576)==false)=true)/\True)/\ifB (bif decide (c < -1048576) then true else decide (c > 1048576)) (True/\3=dO a b c d/\True) ((asT Int 0<=3/\asT Int 3<4/\True)/\(((decide (d < -1048576)==false)=true->(decide (d < -1048576)==false)=true/\True)/\(decide (d < -1048576)=false->(decide (d < -1048576)==false)=true)/\True)/\ifB (bif decide (d < -1048576) then true else decide (d > 1048576)) (True/\3=dO a b c d/\True) (True/\0=dO a b c d/\True)))))) (by kernel_rfl) ?_
 have e:∀ q:Int,(bif decide (q < -1048576) then true else decide (q > 1048576))=!decide (okc q):=fun q=>by
  rw[Bool.eq_iff_iff]
  by_cases h:okc q
  ·have h':=h;unfold okc at h'
   rw[decide_eq_false (p:=q < -1048576) (by omega),decide_eq_false (p:=q > 1048576) (by omega),decide_eq_true h]
   exact Iff.rfl
  ·have h':q < -1048576\/q > 1048576:=by unfold okc at h;omega
   rw[decide_eq_false h]
   rcases h' with h' | h'
   ·rw[decide_eq_true h'];exact Iff.rfl
   ·rw[decide_eq_true h'];cases decide (q < -1048576)<;>exact Iff.rfl
 dsimp only[aB,asT,aH] at *
 simp only[e,List.getD_cons_zero,List.getD_cons_succ]
 simp only[eqI,gU,dO,Bool.and_eq_true,Bool.not_eq_true',decide_eq_false_iff_not,Bool.not_eq_false',decide_eq_true_eq,beq_iff_eq,and_true,true_and]
 refine⟨fun h=>(if_pos h).symm,fun h=>?_⟩
 have hz:¬ (a=0/\b=0/\c=0/\d=0):=by
  rintro⟨rfl,rfl,rfl,rfl⟩
  simp at h
 simp only[if_neg hz]
 exact⟨⟨by omega,by omega⟩,⟨id,id⟩,fun k=>(if_neg (fun e=>k e.1)).symm,fun ka=>⟨⟨by omega,by omega⟩,⟨id,id⟩,fun k=>(if_neg (fun e=>k e.2.1)).symm,fun kb=>⟨⟨by omega,by omega⟩,⟨id,id⟩,fun k=>(if_neg (fun e=>k e.2.2.1)).symm,fun kc=>⟨⟨by omega,by omega⟩,⟨id,id⟩,fun k=>(if_neg (fun e=>k e.2.2.2)).symm,fun kd=>(if_pos ⟨ka,kb,kc,kd⟩).symm⟩⟩⟩⟩
theorem a8r:dG Tryz.prog 65 (cHI (fun a b c d=>okc a/\okc b/\okc c/\okc d) gW):=by
 refine fF LB1 [] Tryz.func65 rfl (by decide) (fun x=>[]) (fun x hp=>?_)
 obtain⟨⟨a,b,c,d,v⟩,u⟩:=x
 change Int at a;change Int at b;change Int at c;change Int at d
 refine iO (True/\IntKind.wrap IntKind.i64 (IntKind.wrap IntKind.i64 (IntKind.wrap IntKind.i64 (IntKind.wrap IntKind.i64 (a*a)+IntKind.wrap IntKind.i64 (b*b))+IntKind.wrap IntKind.i64 (c*c))+IntKind.wrap IntKind.i64 (d*d))=gW a b c d/\True) (by kernel_rfl) ?_
 obtain⟨ha,hb,hc,hd⟩:=hp
 obtain⟨p0,p1⟩:=bP ha ha
 obtain⟨p2,p3⟩:=bP hb hb
 obtain⟨p4,p5⟩:=bP hc hc
 obtain⟨p6,p7⟩:=bP hd hd
 refine⟨trivial,?_,trivial⟩
 dsimp only at p0 p1 p2 p3 p4 p5 p6 p7
 rw[dV (n:=a*a) (by omega) (by omega),dV (n:=b*b) (by omega) (by omega),dV (n:=c*c) (by omega) (by omega),dV (n:=d*d) (by omega) (by omega),dV (n:=a*a+b*b) (by omega) (by omega),dV (n:=a*a+b*b+c*c) (by omega) (by omega),dV (by omega) (by omega)]
 rfl
theorem qB {X Y:Nat->Int} (h:∀ k,k<4->X k=Y k):aX X=aX Y:=by
 have hg:aO X 4=aO Y 4:=by simp only[aO,h 0 (by omega),h 1 (by omega),h 2 (by omega),h 3 (by omega)]
 have hf:kL X 4=kL Y 4:=by simp only[kL,h 0 (by omega),h 1 (by omega),h 2 (by omega),h 3 (by omega)]
 have hG:kH X=kH Y:=by unfold kH;rw[hg,hf]
 have hn:∀ k,k<4->kW X k=kW Y k:=fun k hk=>by unfold kW;rw[h k hk,hG]
 have ho:JA X↔JA Y:=⟨fun e k hk=>hn k hk ▸ e k hk,fun e k hk=>(hn k hk).symm ▸ e k hk⟩
 unfold aX
 by_cases e:JA Y
 ·rw[if_pos e,if_pos (ho.2 e),hn 0 (by omega),hn 1 (by omega),hn 2 (by omega),hn 3 (by omega)]
 ·rw[if_neg e,if_neg (fun e'=>e (ho.1 e'))]
def b5X:Ctr:=⟨[tI,tI,tI,tI],[nS,tI],fun x=>(bW x.1/\bW x.2.1/\bW x.2.2.1/\bW x.2.2.2.1)/\¬ ((show Int from x.1)=0/\(show Int from x.2.1)=0/\(show Int from x.2.2.1)=0/\(show Int from x.2.2.2.1)=0),fun x=>aX (xs4 x.1 x.2.1 x.2.2.1 x.2.2.2.1)⟩
theorem a0T:dG Tryz.prog 67 b5X:=by
 refine fF LB1 [8] Tryz.func67 rfl (by decide) (fun x=>[]) (fun x hp=>?_)
 obtain⟨a,b,c,d,u⟩:=x
 change Int at a;change Int at b;change Int at c;change Int at d
 refine iO ((bW a/\bW b/\bW c/\bW d/\(List.length (a::b::c::d::aH Int)=4/\(∀ (j:Nat),j<4->isz (xsL (a::b::c::d::aH Int) j)<=400000000)/\∃ (j:Nat),j<4/\xsL (a::b::c::d::aH Int) j≠0)/\True)/\True/\(Prod.fst (Prod.fst (aX (xsL (a::b::c::d::aH Int)))),Prod.fst (Prod.snd (Prod.fst (aX (xsL (a::b::c::d::aH Int))))),Prod.fst (Prod.snd (Prod.snd (Prod.fst (aX (xsL (a::b::c::d::aH Int)))))),Prod.fst (Prod.snd (Prod.snd (Prod.snd (Prod.fst (aX (xsL (a::b::c::d::aH Int))))))),())=Prod.fst (aX (xs4 a b c d))/\True/\Prod.fst (Prod.snd (aX (xsL (a::b::c::d::aH Int))))=Prod.fst (Prod.snd (aX (xs4 a b c d)))/\True) (by kernel_rfl) ?_
 obtain⟨⟨ha,hb,hc,hd⟩,hn⟩:=hp
 dsimp only at ha hb hc hd hn
 dsimp only[aB,asT,aH] at *
 have hx:∀ k,k<4->xsL [a,b,c,d] k=xs4 a b c d k:=fun k hk=>by
  match k,hk with
  | 0,_=>rfl
  | 1,_=>rfl
  | 2,_=>rfl
  | 3,_=>rfl
 rw[qB hx]
 refine⟨⟨ha,hb,hc,hd,⟨rfl,fun j hj=>?_,?_⟩,trivial⟩,trivial,rfl,trivial,rfl,trivial⟩
 ·rw[hx j hj]
  match j,hj with
  | 0,_=>exact ER ha.1 ha.2
  | 1,_=>exact ER hb.1 hb.2
  | 2,_=>exact ER hc.1 hc.2
  | 3,_=>exact ER hd.1 hd.2
 ·by_cases h0:a=0
  ·by_cases h1:b=0
   ·by_cases h2:c=0
    ·exact⟨3,by omega,fun h3=>hn ⟨h0,h1,h2,h3⟩⟩
    ·exact⟨2,by omega,h2⟩
   ·exact⟨1,by omega,h1⟩
  ·exact⟨0,by omega,h0⟩
noncomputable def LB2:Lib:=(((LB1.add 28 (cHI (fun _ _ _ _=>True) dO) a5d).add 65 (cHI (fun a b c d=>okc a/\okc b/\okc c/\okc d) gW) a8r).add 67 b5X a0T)
end Go.Proofs.YtidfgdchcpmnfaaGreat
