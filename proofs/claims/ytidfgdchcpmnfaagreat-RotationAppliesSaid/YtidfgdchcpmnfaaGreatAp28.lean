/-
  Lemmas for the theorem vapplies_holds, part 28 of 33.
-/
import Derived.Test.YtidfgdchcpmnfaaGreatAp07
import Derived.Test.YtidfgdchcpmnfaaGreatAp20
import Derived.Test.YtidfgdchcpmnfaaGreatAp23
import Derived.Test.YtidfgdchcpmnfaaGreatAp27
namespace Go.Proofs.YtidfgdchcpmnfaaGreat
open Go Go.RowKit
set_option maxRecDepth 100000
set_option maxHeartbeats 4000000
set_option linter.unusedSimpArgs false
set_option linter.unusedVariables false
def okc (x:Int):Prop:=-1048576<=x/\x<=1048576
instance (x:Int):Decidable (okc x):=by unfold okc;infer_instance
def bG (a b c d:Int):Int:=if a=0/\b=0/\c=0/\d=0 then 1 else if okc a/\okc b/\okc c/\okc d then 0 else 3
def aO (xs:Nat->Int):Nat->Int
 | 0=>0
 | k+1=>((Int.gcd (aO xs k) (xs k):Nat):Int)
def kL (xs:Nat->Int):Nat->Int
 | 0=>0
 | k+1=>if kL xs k=0 then xs k else kL xs k
theorem EL {xs:Nat->Int} {K:Nat}:∀ k,(∀ j,j<k->isz (xs j)<=K)->isz (aO xs k)<=K
 | 0,_=>by show isz 0<=K;rw[a0w];omega
 | k+1,h=>by
  have ih:=EL k (fun j hj=>h j (by omega))
  show isz ((Int.gcd (aO xs k) (xs k):Nat):Int)<=K
  by_cases hx:xs k=0
  ·rw[hx,Int.gcd_zero_right]
   have:isz (((aO xs k).natAbs:Nat):Int)=isz (aO xs k):=by unfold isz;simp
   omega
  ·exact oW hx (h k (by omega))
theorem a3R {xs:Nat->Int} {j:Nat} (hj:xs j≠0):∀ k,j<k->aO xs k≠0
 | 0,h=>by omega
 | k+1,h=>by
  show ((Int.gcd (aO xs k) (xs k):Nat):Int)≠0
  intro e
  have e':Int.gcd (aO xs k) (xs k)=0:=by omega
  rw[Int.gcd_eq_zero_iff] at e'
  by_cases hk:j=k
  ·subst hk;exact hj e'.2
  ·exact a3R hj k (by omega) e'.1
theorem wU {x:Int}:sgn x=0↔x=0:=by unfold sgn;exact Int.sign_eq_zero_iff_zero
def kF (xs:Nat->Int):Int:=if kL xs 4<0 then -aO xs 4 else aO xs 4
def kW (xs:Nat->Int) (k:Nat):Int:=(xs k).fdiv (kF xs)
def JD (xs:Nat->Int):Prop:=∀ k,k<4->okc (kW xs k)
instance (xs:Nat->Int):Decidable (JD xs):=by unfold JD;infer_instance
theorem a0J {xs:Nat->Int} {j:Nat} (hj:j<4) (h:xs j≠0):kF xs≠0:=by
 have:=a3R h 4 hj
 unfold kF
 split<;>omega
def xs4 (a b c d:Int):Nat->Int
 | 0=>a|1=>b|2=>c|_=>d
def nzB (q:Nat->Rat):Bool:=!allB 4 (fun i=>decide (q i=0))
theorem qV {x y:Int} (hy:y≠0) (h:y ∣ x):isz (x.fdiv y)<=isz x:=by
 obtain⟨z,rfl⟩:=h
 rw[Int.mul_fdiv_cancel_left _ hy]
 exact ES (by rw[Int.natAbs_mul];exact Nat.le_mul_of_pos_left _ (Int.natAbs_pos.2 hy))
def qJ (q:Nat->Rat):Int:=1*((q 0).den:Int)*((q 1).den:Int)*((q 2).den:Int)*((q 3).den:Int)
def aW (q:Nat->Rat):Nat->Int:=fun k=>(q k).num*(qJ q).fdiv ((q k).den:Int)
theorem ET {x:Int} (h0:-9223372036854775808<=x) (h1:x<=9223372036854775807):isz x<=400000000 :=
 Nat.le_trans (qM (k:=3) (by rw[bI];omega)) (by omega)
theorem kG {a b c d:Int} (h:bG a b c d=0):¬ (a=0/\b=0/\c=0/\d=0)/\okc a/\okc b/\okc c/\okc d:=by
 unfold bG at h
 by_cases h1:a=0/\b=0/\c=0/\d=0
 ·rw[if_pos h1] at h;omega
 ·rw[if_neg h1] at h
  by_cases h2:okc a/\okc b/\okc c/\okc d
  ·exact⟨h1,h2⟩
  ·rw[if_neg h2] at h;omega
theorem aZ {x y:Int} (hx:okc x) (hy:okc y):-1099511627776<=x*y/\x*y<=1099511627776:=by
 unfold okc at hx hy
 have h1:(x*y).natAbs<=1048576*1048576:=by
  rw[Int.natAbs_mul]
  exact Nat.mul_le_mul (by omega) (by omega)
 omega
def dG (a b c d:Int):Int:=a*a+b*b+c*c+d*d
def nT (a b c d e f g h:Int):Int:=if bG a b c d=0 then bG e f g h else bG a b c d
def b1q (a b c d e f g h:Int):Nat->Int:=xs4 (a*e-b*f-c*g-d*h) (a*f+b*e+c*h-d*g) (a*g-b*h+c*e+d*f) (a*h+b*g-c*f+d*e)
theorem a5Q (a b c d e f g h:Int):(a*e-b*f-c*g-d*h)*(a*e-b*f-c*g-d*h)+(a*f+b*e+c*h-d*g)*(a*f+b*e+c*h-d*g)+(a*g-b*h+c*e+d*f)*(a*g-b*h+c*e+d*f)+(a*h+b*g-c*f+d*e)*(a*h+b*g-c*f+d*e)=dG a b c d*dG e f g h:=by
 unfold dG;grind
theorem kJ {a b c d:Int} (h:¬ (a=0/\b=0/\c=0/\d=0)):0<dG a b c d:=by
 have s:∀ x:Int,0<=x*x:=fun x=>by
  rcases Int.le_total 0 x with h|h
  ·exact Int.mul_nonneg h h
  ·exact Int.mul_nonneg_of_nonpos_of_nonpos h h
 have p:∀ x:Int,x≠0->0<x*x:=fun x hx=>by
  rcases Int.lt_or_gt_of_ne hx with h|h
  ·exact Int.mul_pos_of_neg_of_neg h h
  ·exact Int.mul_pos h h
 unfold dG
 have:=s a;have:=s b;have:=s c;have:=s d
 by_cases ha:a=0
 ·by_cases hb:b=0
  ·by_cases hc:c=0
   ·have:=p d (fun hd=>h ⟨ha,hb,hc,hd⟩);omega
   ·have:=p c hc;omega
  ·have:=p b hb;omega
 ·have:=p a ha;omega
theorem b0A {a b c d e f g h:Int} (h1:¬ (a=0/\b=0/\c=0/\d=0)) (h2:¬ (e=0/\f=0/\g=0/\h=0)) :
  ¬ (a*e-b*f-c*g-d*h=0/\a*f+b*e+c*h-d*g=0/\a*g-b*h+c*e+d*f=0/\a*h+b*g-c*f+d*e=0):=fun⟨k0,k1,k2,k3⟩=>by
 have:=a5Q a b c d e f g h
 rw[k0,k1,k2,k3] at this
 have:=Int.mul_pos (kJ h1) (kJ h2)
 omega
theorem zC {a b c d:Int} (oa:okc a) (ob:okc b) (oc:okc c) (od:okc d):-8796093022208<=dG a b c d/\dG a b c d<=8796093022208:=by
 obtain⟨p0,p1⟩:=aZ oa oa
 obtain⟨p2,p3⟩:=aZ ob ob
 obtain⟨p4,p5⟩:=aZ oc oc
 obtain⟨p6,p7⟩:=aZ od od
 unfold dG;omega
def BQ (a b c d e f g h:Int):Int:=a*e+b*f+c*g+d*h
theorem a2C {a b c d e f g h:Int} (oa:okc a) (ob:okc b) (oc:okc c) (od:okc d) (oe:okc e) (of:okc f) (og:okc g) (oh:okc h):-8796093022208<=BQ a b c d e f g h/\BQ a b c d e f g h<=8796093022208:=by
 obtain⟨p0,p1⟩:=aZ oa oe
 obtain⟨p2,p3⟩:=aZ ob of
 obtain⟨p4,p5⟩:=aZ oc og
 obtain⟨p6,p7⟩:=aZ od oh
 unfold BQ;omega
def a1N (a b c d e f g h:Int):Rat:=((1:Int):Rat)-Rat.divInt (BQ a b c d e f g h*BQ a b c d e f g h) (dG a b c d*dG e f g h)
theorem a2l {x:Int} (h0:-8796093022208<=x) (h1:x<=8796093022208):isz x<=2 :=
 qM (by rw[bI];omega)
def kE (s:Nat->Int) (e:Nat->Nat->Rat):Nat->Rat
 | 0=>((1:Int):Rat)
 | k+1=>kE s e k+((s k:Int):Rat)*e k k
theorem JB {s:Nat->Int} {e:Nat->Nat->Rat} {K:Nat} (hs:∀ k,k<3->rsz ((s k:Int):Rat)<=1) (he:∀ k,k<3->rsz (e k k)<=K):∀ k,k<=3->rsz (kE s e k)<=k*(K+2)+1
 | 0,_=>by
  show rsz ((1:Int):Rat)<=_
  have:rsz ((1:Int):Rat)<=1:=by decide +kernel
  omega
 | k+1,hk=>by
  have ih:=JB hs he k (by omega)
  have a:=fU ((s k:Int):Rat) (e k k)
  have b:=nX (kE s e k) (((s k:Int):Rat)*e k k)
  have c:=hs k (by omega)
  have d:=he k (by omega)
  show rsz (kE s e k+((s k:Int):Rat)*e k k)<=_
  rw[Nat.succ_mul]
  omega
theorem wF (q:Nat->Rat) {k:Nat} (hk:k<4):((q k).den:Int) ∣ qJ q:=by
 unfold qJ
 have:k=0\/k=1\/k=2\/k=3:=by omega
 rcases this with rfl|rfl|rfl|rfl
 ·exact Int.dvd_mul_of_dvd_left (Int.dvd_mul_of_dvd_left (Int.dvd_mul_of_dvd_left (Int.dvd_mul_left _ _)))
 ·exact Int.dvd_mul_of_dvd_left (Int.dvd_mul_of_dvd_left (Int.dvd_mul_left _ _))
 ·exact Int.dvd_mul_of_dvd_left (Int.dvd_mul_left _ _)
 ·exact Int.dvd_mul_left _ _
theorem a1O {q:Nat->Rat} {K:Nat} (h:∀ k,k<4->rsz (q k)<=K):isz (qJ q)<=4*K+1:=by
 unfold qJ
 have h0:=h 0 (by omega)
 have h1:=h 1 (by omega)
 have h2:=h 2 (by omega)
 have h3:=h 3 (by omega)
 have d0:=cZ (q 0)
 have d1:=cZ (q 1)
 have d2:=cZ (q 2)
 have d3:=cZ (q 3)
 have m0:=dY 1 ((q 0).den:Int)
 have m1:=dY (1*((q 0).den:Int)) ((q 1).den:Int)
 have m2:=dY (1*((q 0).den:Int)*((q 1).den:Int)) ((q 2).den:Int)
 have m3:=dY (1*((q 0).den:Int)*((q 1).den:Int)*((q 2).den:Int)) ((q 3).den:Int)
 have z:isz 1<=1:=by decide +kernel
 omega
theorem JO {q:Nat->Rat} {K:Nat} (h:∀ k,k<4->rsz (q k)<=K) {k:Nat} (hk:k<4):isz (aW q k)<=5*K+1:=by
 unfold aW
 have h1:=dY (q k).num ((qJ q).fdiv ((q k).den:Int))
 have h2:=qV (x:=qJ q) (y:=((q k).den:Int)) (by have:=(q k).den_nz;omega) (wF q hk)
 have h3:=a1O h
 have h4:=dM (q k)
 have h5:=h k hk
 omega
theorem a5b (q:Nat->Rat):qJ q≠0:=by
 unfold qJ
 have h:∀ k,((q k).den:Int)≠0:=fun k=>by have:=(q k).den_nz;omega
 exact Int.mul_ne_zero (Int.mul_ne_zero (Int.mul_ne_zero (Int.mul_ne_zero (by omega) (h 0)) (h 1)) (h 2)) (h 3)
theorem NG {q:Nat->Rat} {k:Nat} (hk:k<4) (h:q k≠0):aW q k≠0:=by
 unfold aW
 refine Int.mul_ne_zero (fun e=>h (Rat.num_eq_zero.1 e)) (fun e=>?_)
 obtain⟨z,hz⟩:=wF q hk
 have hd:((q k).den:Int)≠0:=by have:=(q k).den_nz;omega
 rw[hz,Int.mul_fdiv_cancel_left _ hd] at e
 rw[e,Int.mul_zero] at hz
 exact a5b q hz
def dN (q:Nat->Rat):Nat->Int
 | 0=>1
 | k+1=>dN q k*((q k).den:Int)
theorem NP {q:Nat->Rat} {K:Nat} (h:∀ k,k<4->rsz (q k)<=K):∀ k,k<=4->isz (dN q k)<=k*K+1
 | 0,_=>by
  show isz 1<=_
  have:isz 1<=1:=by decide +kernel
  omega
 | k+1,hk=>by
  have ih:=NP h k (by omega)
  have m:=dY (dN q k) ((q k).den:Int)
  have a:=h k (by omega)
  have b:=cZ (q k)
  show isz (dN q k*((q k).den:Int))<=_
  rw[Nat.succ_mul]
  omega
def iH (e:Nat->Nat->Rat):Nat->Nat->Rat
 | 0=>fun|0=>kE (xs4 1 1 1 0) e 3|1=>e 2 1-e 1 2|2=>e 0 2-e 2 0|_=>e 1 0-e 0 1
 | 1=>fun|0=>e 2 1-e 1 2|1=>kE (xs4 1 (-1) (-1) 0) e 3|2=>e 0 1+e 1 0|_=>e 0 2+e 2 0
 | 2=>fun|0=>e 0 2-e 2 0|1=>e 0 1+e 1 0|2=>kE (xs4 (-1) 1 (-1) 0) e 3|_=>e 1 2+e 2 1
 | _=>fun|0=>e 1 0-e 0 1|1=>e 0 2+e 2 0|2=>e 1 2+e 2 1|_=>kE (xs4 (-1) (-1) 1 0) e 3
theorem a5I {e:Nat->Nat->Rat} {K:Nat} (h:∀ i j,i<3->j<3->rsz (e i j)<=K) (hK:K<=700000):∀ i k,k<4->rsz (iH e i k)<=50000000:=by
 have hs:∀ x y z:Int,(x=1\/x=-1)->(y=1\/y=-1)->(z=1\/z=-1)->rsz (kE (xs4 x y z 0) e 3)<=50000000:=fun x y z hx hy hz=>by
  have u:∀ x:Int,(x=1\/x=-1)->rsz ((x:Int):Rat)<=1:=fun x hx=>by rcases hx with e|e<;>rw[e]<;>decide +kernel
  have:=JB (s:=xs4 x y z 0) (e:=e) (K:=K) (fun k hk=>by
   obtain rfl|rfl|rfl:k=0\/k=1\/k=2:=by omega
   ·exact u x hx
   ·exact u y hy
   ·exact u z hz) (fun k hk=>h k k hk hk) 3 (by omega)
  omega
 have hm:∀ i j,i<3->j<3->rsz (e i j-e j i)<=50000000:=fun i j hi hj=>by have:=wQ (e i j) (e j i);have:=h i j hi hj;have:=h j i hj hi;omega
 have hp:∀ i j,i<3->j<3->rsz (e i j+e j i)<=50000000:=fun i j hi hj=>by have:=nX (e i j) (e j i);have:=h i j hi hj;have:=h j i hj hi;omega
 intro i k hk
 obtain rfl|rfl|rfl|rfl:k=0\/k=1\/k=2\/k=3:=by omega
 all_goals
  match i with
  | 0=>first|exact hs _ _ _ (by omega) (by omega) (by omega)|exact hm _ _ (by omega) (by omega)|exact hp _ _ (by omega) (by omega)
  | 1=>first|exact hs _ _ _ (by omega) (by omega) (by omega)|exact hm _ _ (by omega) (by omega)|exact hp _ _ (by omega) (by omega)
  | 2=>first|exact hs _ _ _ (by omega) (by omega) (by omega)|exact hm _ _ (by omega) (by omega)|exact hp _ _ (by omega) (by omega)
  | _+3=>first|exact hs _ _ _ (by omega) (by omega) (by omega)|exact hm _ _ (by omega) (by omega)|exact hp _ _ (by omega) (by omega)
def dP (a b c d:Int):Nat->Nat->Int
 | 0=>fun|0=>a*a+b*b-c*c-d*d|1=>2*(b*c-a*d)|_=>2*(b*d+a*c)
 | 1=>fun|0=>2*(b*c+a*d)|1=>a*a-b*b+c*c-d*d|_=>2*(c*d-a*b)
 | _=>fun|0=>2*(b*d-a*c)|1=>2*(c*d+a*b)|_=>a*a-b*b-c*c+d*d
def dZ (a b c d:Int) (i j:Nat):Rat:=Rat.divInt (dP a b c d i j) (dG a b c d)
theorem DL {a b c d:Int} (oa:okc a) (ob:okc b) (oc:okc c) (od:okc d) {i j:Nat} (hi:i<3) (hj:j<3):-8796093022208<=dP a b c d i j/\dP a b c d i j<=8796093022208:=by
 obtain⟨b6W,b6X⟩:=aZ oa oa
 obtain⟨b6Y,b6Z⟩:=aZ oa ob
 obtain⟨b7a,b7b⟩:=aZ oa oc
 obtain⟨b7c,b7d⟩:=aZ oa od
 obtain⟨b7f,b7g⟩:=aZ ob ob
 obtain⟨b7h,b7i⟩:=aZ ob oc
 obtain⟨b7j,b7k⟩:=aZ ob od
 obtain⟨b7l,b7m⟩:=aZ oc oc
 obtain⟨b7n,b7o⟩:=aZ oc od
 obtain⟨b7p,b7q⟩:=aZ od od
 obtain rfl|rfl|rfl:i=0\/i=1\/i=2:=by omega
 all_goals
  obtain rfl|rfl|rfl:j=0\/j=1\/j=2:=by omega
  all_goals
   simp only[dP]
   omega
theorem FT {a b c d:Int} (oa:okc a) (ob:okc b) (oc:okc c) (od:okc d) (hN:dG a b c d≠0) {i j:Nat} (hi:i<3) (hj:j<3):rsz (dZ a b c d i j)<=10:=by
 have h1:=DL oa ob oc od hi hj
 have h2:=zC oa ob oc od
 exact Nat.le_trans (sN _ _ hN (k:=3) (qM (by rw[bI];omega)) (qM (by rw[bI];omega))) (by omega)
theorem OJ {xs:Nat->Int}:∀ k j,j<k->aO xs k ∣ xs j
 | 0,j,h=>by omega
 | k+1,j,h=>by
  show ((Int.gcd (aO xs k) (xs k):Nat):Int) ∣ xs j
  by_cases e:j=k
  ·subst e;exact Int.gcd_dvd_right ..
  ·exact Int.dvd_trans (Int.gcd_dvd_left ..) (OJ k j (by omega))
theorem a5O {xs:Nat->Int} {j:Nat} (hj:j<4):kF xs ∣ xs j:=by
 unfold kF
 split
 ·exact Int.neg_dvd.2 (OJ 4 j hj)
 ·exact OJ 4 j hj
theorem a5F {a b c d:Int} (h:dG a b c d≠0):((dG a b c d:Int):Rat)≠0:=fun e=>h (Rat.intCast_inj.1 (by simpa using e))
theorem a4A (a b c d:Int) (i j:Nat):dZ a b c d i j=((dP a b c d i j:Int):Rat) / ((dG a b c d:Int):Rat):=Rat.divInt_eq_div ..
theorem a6d {a b c d:Int} (h:dG a b c d≠0):sS (dZ a b c d)=true:=by
 have hn:=a5F h
 have hN:((dG a b c d:Int):Rat)=(a:Rat)*a+(b:Rat)*b+(c:Rat)*c+(d:Rat)*d:=by unfold dG;simp only[Rat.intCast_add,Rat.intCast_mul]
 unfold sS
 rw[Bool.and_eq_true]
 refine⟨iO.2 (fun i hi=>iO.2 (fun j hj=>?_)),?_⟩
 ·unfold lF
  rw[decide_eq_true_eq]
  simp only[jS,a4A]
  generalize ((dG a b c d:Int):Rat)=n at *
  obtain rfl|rfl|rfl:i=0\/i=1\/i=2:=by omega
  all_goals
   obtain rfl|rfl|rfl:j=0\/j=1\/j=2:=by omega
   all_goals
    simp only[dP,idE,Rat.intCast_add,Rat.intCast_mul,Rat.intCast_sub]
    generalize (a:Rat)=a at *
    generalize (b:Rat)=b at *
    generalize (c:Rat)=c at *
    generalize (d:Rat)=d at *
    subst hN
    simp
    grind
 ·rw[decide_eq_true_eq,b6g]
  simp only[a4A]
  generalize ((dG a b c d:Int):Rat)=n at *
  simp only[dP,Rat.intCast_add,Rat.intCast_mul,Rat.intCast_sub]
  generalize (a:Rat)=a at *
  generalize (b:Rat)=b at *
  generalize (c:Rat)=c at *
  generalize (d:Rat)=d at *
  subst hN
  grind
theorem lt3 {i:Nat} (h:i<3):i=0\/i=1\/i=2:=by omega
theorem rJ (a b c d:Int) {i j:Nat} (hi:i<3) (hj:j<3):dZ a (-b) (-c) (-d) i j=dZ a b c d j i:=by
 have h1:dG a (-b) (-c) (-d)=dG a b c d:=by unfold dG;grind
 unfold dZ
 rw[h1]
 congr 1
 rcases lt3 hi with rfl|rfl|rfl
 all_goals
  rcases lt3 hj with rfl|rfl|rfl
  all_goals
   simp only[dP]
   grind
theorem a6c {a b c d:Int} (h:dG a b c d≠0) {i j:Nat} (hi:i<3) (hj:j<3):jS (dZ a b c d i) (dZ a b c d j) 3=idE i j:=by
 have:=a6d h
 unfold sS at this
 rw[Bool.and_eq_true] at this
 have:=iO.1 (iO.1 this.1 i hi) j hj
 simpa [lF] using this
set_option maxRecDepth 20000
theorem iK {G:Prop} (V:Prop) (h:V=G) (v:V):G:=h ▸ v
abbrev asT (α:Type) (x:α):α:=x
abbrev aB (α:Type):List α:=[]
abbrev aF (n:Nat):Int:=(n:Int)
abbrev iC (n:Int):Rat:=(n:Rat)
abbrev aA.{u} {α:Sort u} {p:α->Prop} (x:Subtype p):α:=x.1
abbrev tB:Ty:=.bool
abbrev mJ:Ty:=.pair tI (.pair tI (.pair tI (.pair tI .unit)))
abbrev tM:Ty:=.list (.list tQ)
def cHI (pre:Int->Int->Int->Int->Prop) (g:Int->Int->Int->Int->Int):Ctr:=⟨[mJ],[tI],fun x=>pre x.1.1 x.1.2.1 x.1.2.2.1 x.1.2.2.2.1,fun x=>(g x.1.1 x.1.2.1 x.1.2.2.1 x.1.2.2.2.1,())⟩
abbrev QC4:Type:=(Int × Int × Int × Int × Unit) × Int × Unit
def cHQ (pre:Int->Int->Int->Int->Prop) (g:Int->Int->Int->Int->QC4):Ctr:=⟨[mJ],[mJ,tI],fun x=>pre x.1.1 x.1.2.1 x.1.2.2.1 x.1.2.2.2.1,fun x=>g x.1.1 x.1.2.1 x.1.2.2.1 x.1.2.2.2.1⟩
def b1E (g:Int->Int->Int->Int->Int->Int->Int->Int->QC4):Ctr:=⟨[mJ,mJ],[mJ,tI],fun x=>True,fun x=>g x.1.1 x.1.2.1 x.1.2.2.1 x.1.2.2.2.1 x.2.1.1 x.2.1.2.1 x.2.1.2.2.1 x.2.1.2.2.2.1⟩
def b1F (pre:Rat->Rat->Prop) (g:Rat->Rat->Bool):Ctr:=⟨[tQ,tQ],[tB],fun x=>pre x.1 x.2.1,fun x=>(g x.1 x.2.1,())⟩
theorem a3z {f:FuncId} {pre:Rat->Rat->Prop} {g:Rat->Rat->Bool} (h:∀ (v u:Value) (x y:Rat) (w:World),RQ w v x->RQ w u y->pre x y->Calls Tryz.prog f #[v,u] w (GB (g x y) w)):dI Tryz.prog f (b1F pre g):=by
 intro F w vs x hF hvs hp
 obtain⟨v,vs',rfl,h1,u,vs'',rfl,h2,h3⟩:=hvs
 have h3:vs''=[]:=h3
 subst h3
 refine(h v u x.1 x.2.1 w (vM h1) (vM h2) hp).mono ?_
 rintro e w' ⟨rfl,hb⟩
 exact⟨_,rfl,RH _,hb⟩
def b6b (pre:Rat->Rat->Prop) (g:Rat->Rat->Int):Ctr:=⟨[tQ,tQ],[tI],fun x=>pre x.1 x.2.1,fun x=>(g x.1 x.2.1,())⟩
theorem a9A {f:FuncId} {pre:Rat->Rat->Prop} {g:Rat->Rat->Int} (h:∀ (v u:Value) (x y:Rat) (w:World),RQ w v x->RQ w u y->pre x y->Calls Tryz.prog f #[v,u] w (fun e w'=>e=.returned (.int .i64 (g x y))/\Below w.heap.size w w')):dI Tryz.prog f (b6b pre g):=by
 intro F w vs x hF hvs hp
 obtain⟨v,vs',rfl,h1,u,vs'',rfl,h2,h3⟩:=hvs
 have h3:vs''=[]:=h3
 subst h3
 refine(h v u x.1 x.2.1 w (vM h1) (vM h2) hp).mono ?_
 rintro e w' ⟨rfl,hb⟩
 exact⟨_,rfl,uM _,hb⟩
def cQI (pre:Rat->Prop) (g:Rat->Int):Ctr:=⟨[tQ],[tI],fun x=>pre x.1,fun x=>(g x.1,())⟩
theorem b1G {f:FuncId} {pre:Rat->Prop} {g:Rat->Int} (h:∀ (v:Value) (x:Rat) (w:World),RQ w v x->pre x->Calls Tryz.prog f #[v] w (fun e w'=>e=.returned (.int .i64 (g x))/\Below w.heap.size w w')):dI Tryz.prog f (cQI pre g):=by
 intro F w vs x hF hvs hp
 obtain⟨v,vs',rfl,h1,h3⟩:=hvs
 have h3:vs'=[]:=h3
 subst h3
 refine(h v x.1 w (vM h1) hp).mono ?_
 rintro e w' ⟨rfl,hb⟩
 exact⟨_,rfl,uM _,hb⟩
def bZ (i:Int):Prop:=-9223372036854775808<=i/\i<=9223372036854775807
def a6V:Ctr:=⟨[tI,tI],[tQ,tI],fun x=>bZ x.1/\bZ x.2.1/\(show Int from x.2.1)≠0,fun x=>(Rat.divInt x.1 x.2.1,(0:Int),())⟩
theorem ZI {f:FuncId} (h:∀ (i k:Int) (w:World),-9223372036854775808<=i->i<=9223372036854775807->-9223372036854775808<=k->k<=9223372036854775807->k≠0->Calls Tryz.prog f #[.int .i64 i,.int .i64 k] w (GQC (Rat.divInt i k) 0 w)):dI Tryz.prog f a6V:=by
 intro F w vs x hF hvs hp
 obtain⟨v,vs',rfl,h1,u,vs'',rfl,h2,h3⟩:=hvs
 have h3:vs''=[]:=h3
 subst h3
 rw[a0r h1,a0r h2]
 refine(h _ _ w hp.1.1 hp.1.2 hp.2.1.1 hp.2.1.2 hp.2.2).mono ?_
 rintro e w' ⟨r,rfl,hr,hb⟩
 exact⟨_,rfl,⟨[_,_],rfl,_,_,rfl,a4J hr,_,_,rfl,uM _,rfl⟩,hb⟩
def cB (b:Bool):Ctr:=⟨[],[tB],fun x=>True,fun x=>(b,())⟩
def aY (xs:Nat->Int):QC4:=if JD xs then ((kW xs 0,kW xs 1,kW xs 2,kW xs 3,()),0,()) else ((0,0,0,0,()),3,())
def JV (a b c d:Int):QC4:=if bG a b c d=0 then aY (xs4 a (-b) (-c) (-d)) else ((0,0,0,0,()),bG a b c d,())
def uP (a b c d:Int):QC4:=if bG a b c d=0 then aY (xs4 a b c d) else ((0,0,0,0,()),bG a b c d,())
def SI (a b c d e f g h:Int):QC4:=if nT a b c d e f g h=0 then aY (b1q a b c d e f g h) else ((0,0,0,0,()),nT a b c d e f g h,())
noncomputable def LQ:Lib:=(((((((Lib.nil
 ).add 43 (cQ2 (fun x y=>rsz x<=190000000/\rsz y<=190000000) (·+·)) (NC fun v u x y w a b h=>UU v u x y w a b h.1 h.2)
 ).add 44 (cQ2 (fun x y=>rsz x<=190000000/\rsz y<=190000000) (·*·)) (NC fun v u x y w a b h=>a5Z v u x y w a b h.1 h.2)
 ).add 111 (cQ1 (fun x=>rsz x<=190000000) (fun x=>-x)) (a6Z fun v x w a h=>UW v x w a (by omega))
 ).add 47 a6V (ZI fun i k w h0 h1 h2 h3 hk=>a8N i k w h0 h1 h2 h3 hk)
 ).add 75 (b1F (fun x y=>rsz x<=190000000/\rsz y<=190000000) (fun x y=>decide (x=y))) (a3z fun v u x y w a b h=>VA v u x y w a b h.1 h.2)
 ).add 21 (b1F (fun x y=>rsz x<=190000000/\rsz y<=190000000) (fun x y=>decide (x=y))) (a3z fun v u x y w a b h=>YA v u x y w a b h.1 h.2)
 ).add 64 a6V (ZI fun i k w h0 h1 h2 h3 hk=>b0v i k w h0 h1 h2 h3 hk)
set_option maxRecDepth 100000
set_option maxHeartbeats 400000
abbrev QL:Type:=List Rat
abbrev QM:Type:=List (List Rat)
def uY (xs:QL):Prop:=∀ q ∈ xs,rsz q<=190000000
def zO (m:QM):Prop:=∀ r ∈ m,uY r
theorem uY.at_ {xs:QL} (h:uY xs) (i:Nat):rsz (xs.getD i 0)<=190000000:=by
 by_cases hi:i<xs.length
 ·rw[List.getD_eq_getElem?_getD,List.getElem?_eq_getElem hi,Option.getD_some]
  exact h _ (List.getElem_mem hi)
 ·rw[List.getD_eq_getElem?_getD,List.getElem?_eq_none (by omega),Option.getD_none,QT];omega
theorem zO.at_ {m:QM} (h:zO m) (i:Nat):uY (m.getD i []):=by
 by_cases hi:i<m.length
 ·rw[List.getD_eq_getElem?_getD,List.getElem?_eq_getElem hi,Option.getD_some]
  exact h _ (List.getElem_mem hi)
 ·rw[List.getD_eq_getElem?_getD,List.getElem?_eq_none (by omega),Option.getD_none]
  intro q hq;cases hq
theorem VI {α:Type} {xs ys:List α} {i:Nat} (d:α) (h:xs.take i=ys.take i) (h1:i<xs.length) (h2:i<ys.length) (e:xs.getD i d=ys.getD i d):xs.take (i+1)=ys.take (i+1):=by
 rw[List.take_add_one,List.take_add_one,h]
 rw[List.getD_eq_getElem?_getD,List.getD_eq_getElem?_getD,List.getElem?_eq_getElem h1,List.getElem?_eq_getElem h2] at e
 rw[List.getElem?_eq_getElem h1,List.getElem?_eq_getElem h2]
 simp only[Option.getD_some] at e
 rw[e]
theorem dR {n:Int} (h0:-9223372036854775808<=n) (h1:n<=9223372036854775807):IntKind.wrap .i64 n=n:=by
 unfold IntKind.wrap
 simp only[IntKind.bits,IntKind.signed,Bool.true_and,decide_eq_true_eq,Nat.reduceSub,Int.reducePow,ge_iff_le]
 split<;>omega
abbrev a4N {α:Type} (xs ys:List α):Type:={i:Nat // xs.length=ys.length->i<=xs.length/\xs.take i=ys.take i}
def cSL:Ctr:=⟨[.list tQ,.list tQ],[tB],fun x=>uY x.1/\uY x.2.1/\(show QL from x.1).length<=1000000000,fun x=>((show QL from x.1)==(show QL from x.2.1),())⟩
theorem YG:dI Tryz.prog 121 cSL:=by
 refine fB LQ [] Tryz.func121 rfl (by decide) (fun x=>[.inv (a4N (α:=Rat) x.1 x.2.1) (fun i=>[(5,.val tI (i.1:Int))]) (fun i=>[]) (fun i=>(show QL from x.1).length+1-i.1) ⟨0,fun h=>⟨Nat.zero_le _,rfl⟩⟩ (fun _=>[])]) (fun x hp=>?_)
 obtain⟨x,y,u⟩:=x
 change QL at x
 change QL at y
 refine iK (ifB (aF (List.length x) != aF (List.length y)) (True/\false=(x==y)/\True) ((asT Int 0=aF 0/\True)/\∀ (i:a4N x y),asT Bool true=true/\ifB (decide (aF (aA i)<aF (List.length x))) ((0<=aF (aA i)/\aF (aA i)<aF (List.length x)/\0<=aF (aA i)/\aF (aA i)<aF (List.length y)/\(rsz (List.getD x (Int.toNat (aF (aA i))) 0)<=190000000/\rsz (List.getD y (Int.toNat (aF (aA i))) 0)<=190000000)/\True)/\ifB (!decide (List.getD x (Int.toNat (aF (aA i))) 0=List.getD y (Int.toNat (aF (aA i))) 0)) (True/\false=(x==y)/\True) (∃ (i':a4N x y),List.length x+1-aA i'<List.length x+1-aA i/\IntKind.wrap IntKind.i64 (aF (aA i)+1)=aF (aA i')/\True)) (True/\true=(x==y)/\True))) (by kernel_rfl) ?_
 obtain⟨hx,hy,hl⟩:=hp
 dsimp only[aF,aA,asT] at *
 refine fA.2 ⟨fun h=>⟨trivial,?_,trivial⟩,fun h=>⟨⟨rfl,trivial⟩,fun i=>⟨rfl,fA.2 ⟨fun h1=>?_,fun h1=>⟨trivial,?_,trivial⟩⟩⟩⟩⟩
 ·simp only[bne_iff_ne,ne_eq,Int.natCast_inj] at h
  symm
  simp only[beq_eq_false_iff_ne]
  intro e;exact h (by rw[e])
 all_goals
  simp only[bne_eq_false_iff_eq,Int.natCast_inj] at h
  simp only[decide_eq_true_eq,decide_eq_false_iff_not,Int.ofNat_lt] at h1
  obtain⟨i,hi⟩:=i
  obtain⟨h2,h3⟩:=hi h
  dsimp only at h1 ⊢
 ·refine⟨⟨by omega,by omega,by omega,by omega,⟨hx.at_ _,hy.at_ _⟩,trivial⟩,fA.2 ⟨fun h4=>⟨trivial,?_,trivial⟩,fun h4=>?_⟩⟩
  ·simp only[Bool.not_eq_true',decide_eq_false_iff_not,Int.toNat_natCast] at h4
   symm
   simp only[beq_eq_false_iff_ne]
   intro e;exact h4 (by rw[e])
  ·simp only[Bool.not_eq_false',decide_eq_true_eq,Int.toNat_natCast] at h4
   refine⟨⟨i+1,fun _=>⟨h1,VI 0 h3 h1 (by omega) h4⟩⟩,by simp only;omega,?_,trivial⟩
   rw[dR (by omega) (by omega)];rfl
 ·symm
  simp only[beq_iff_eq]
  have:i=x.length:=by omega
  rw[this,List.take_length,h,List.take_length] at h3
  exact h3
noncomputable def b7O:Lib:=LQ.add 24 (cIQ bZ (fun i=>(i:Rat))) (a1K fun x w h=>UR x w h.1 h.2)
noncomputable def LS1:Lib:=b7O.add 121 cSL YG
theorem YH:dI Tryz.prog 82 cSL:=by
 refine fB LS1 [] Tryz.func82 rfl (by decide) (fun x=>[]) (fun x hp=>?_)
 refine iK (((uY (asT (List Rat) (Prod.fst x))/\uY (asT (List Rat) (Prod.fst (Prod.snd x)))/\List.length (asT (List Rat) (Prod.fst x))<=1000000000)/\True)/\True/\(asT (List Rat) (Prod.fst x)==asT (List Rat) (Prod.fst (Prod.snd x)))=(asT (List Rat) (Prod.fst x)==asT (List Rat) (Prod.fst (Prod.snd x)))/\True) (by kernel_rfl) ?_
 obtain⟨x,y,u⟩:=x
 change QL at x
 change QL at y
 exact⟨⟨hp,trivial⟩,trivial,rfl,trivial⟩
noncomputable def LS2:Lib:=LS1.add 82 cSL YH
abbrev e2 (m:QM) (i j:Nat):Rat:=(m.getD i []).getD j 0
theorem lZ {α:Type} {p:α->Prop} {xs:List α} (h:∀ x ∈ xs,p x) {i:Nat} (hi:i<xs.length) {d:α}:p (xs.getD i d):=by
 rw[List.getD_eq_getElem?_getD,List.getElem?_eq_getElem hi]
 exact h _ (List.getElem_mem hi)
def cSM:Ctr:=⟨[tM,tM],[tB],fun x=>zO x.1/\zO x.2.1/\(show QM from x.1).length<=1000000000/\∀ r ∈ (show QM from x.1),r.length<=1000000000,fun x=>((show QM from x.1)==(show QM from x.2.1),())⟩
theorem QU:dI Tryz.prog 35 cSM:=by
 refine fB LS2 [] Tryz.func35 rfl (by decide) (fun x=>[.inv (a4N (α:=QL) x.1 x.2.1) (fun i=>[(13,.val tI (i.1:Int))]) (fun i=>[]) (fun i=>(show QM from x.1).length+1-i.1) ⟨0,fun h=>⟨Nat.zero_le _,rfl⟩⟩ (fun _=>[])]) (fun x hp=>?_)
 obtain⟨x,y,u⟩:=x
 change QM at x
 change QM at y
 refine iK (ifB (aF (List.length x) != aF (List.length y)) (True/\false=(x==y)/\True) ((asT Int 0=aF 0/\True)/\∀ (i:a4N x y),asT Bool true=true/\ifB (decide (aF (aA i)<aF (List.length x))) ((0<=aF (aA i)/\aF (aA i)<aF (List.length x)/\0<=aF (aA i)/\aF (aA i)<aF (List.length y)/\(uY (List.getD x (Int.toNat (aF (aA i))) (aB Rat))/\uY (List.getD y (Int.toNat (aF (aA i))) (aB Rat))/\List.length (List.getD x (Int.toNat (aF (aA i))) (aB Rat))<=1000000000)/\True)/\ifB (!List.getD x (Int.toNat (aF (aA i))) (aB Rat)==List.getD y (Int.toNat (aF (aA i))) (aB Rat)) (True/\false=(x==y)/\True) (∃ (i':a4N x y),List.length x+1-aA i'<List.length x+1-aA i/\IntKind.wrap IntKind.i64 (aF (aA i)+1)=aF (aA i')/\True)) (True/\true=(x==y)/\True))) (by kernel_rfl) ?_
 obtain⟨hx,hy,hl,hr⟩:=hp
 dsimp only[aF,aA,asT] at *
 refine fA.2 ⟨fun h=>⟨trivial,?_,trivial⟩,fun h=>⟨⟨rfl,trivial⟩,fun i=>⟨rfl,fA.2 ⟨fun h1=>?_,fun h1=>⟨trivial,?_,trivial⟩⟩⟩⟩⟩
 ·simp only[bne_iff_ne,ne_eq,Int.natCast_inj] at h
  symm
  simp only[beq_eq_false_iff_ne]
  intro e;exact h (by rw[e])
 all_goals
  simp only[bne_eq_false_iff_eq,Int.natCast_inj] at h
  simp only[decide_eq_true_eq,decide_eq_false_iff_not,Int.ofNat_lt] at h1
  obtain⟨i,hi⟩:=i
  obtain⟨h2,h3⟩:=hi h
  dsimp only at h1 ⊢
 ·refine⟨⟨by omega,by omega,by omega,by omega,⟨hx.at_ _,hy.at_ _,lZ hr h1⟩,trivial⟩,fA.2 ⟨fun h4=>⟨trivial,?_,trivial⟩,fun h4=>?_⟩⟩
  ·simp only[Bool.not_eq_true',beq_eq_false_iff_ne,Int.toNat_natCast] at h4
   symm
   simp only[beq_eq_false_iff_ne]
   intro e;exact h4 (by rw[e])
  ·simp only[Bool.not_eq_false',beq_iff_eq,Int.toNat_natCast] at h4
   refine⟨⟨i+1,fun _=>⟨h1,VI [] h3 h1 (by omega) h4⟩⟩,by simp only;omega,?_,trivial⟩
   rw[dR (by omega) (by omega)];rfl
 ·symm
  simp only[beq_iff_eq]
  have:i=x.length:=by omega
  rw[this,List.take_length,h,List.take_length] at h3
  exact h3
abbrev Le3:Type:={i:Nat // i<=3}
set_option maxHeartbeats 1000000
abbrev tZ:Ty:=.lf .big
theorem rV {F:Nat->Prop} {w:World} {v:Value} {x:Int} (h:iY F w tZ v x):bV w v x:=by
 obtain⟨cs,rfl,h2⟩:=h
 exact h2
theorem KN {F:Nat->Prop} {w:World} {v:Value} {x:Int} (h:bV w v x):iY F w tZ v x:=by
 obtain⟨b,p,c,rfl,_⟩:=a3x h
 exact⟨_,rfl,h⟩
def cZ2 (g:Int->Int->Int):Ctr:=⟨[tZ,tZ],[tZ],fun x=>isz x.1<=1000000000/\isz x.2.1<=1000000000,fun x=>(g x.1 x.2.1,())⟩
theorem WH {f:FuncId} {g:Int->Int->Int} (h:∀ (v u:Value) (x y:Int) (w:World),Raw w v x->Raw w u y->isz x<=1000000000->isz y<=1000000000->Calls Tryz.prog f #[v,u] w (kP (g x y) w)):dI Tryz.prog f (cZ2 g):=by
 intro F w vs x hF hvs hp
 obtain⟨v,vs',rfl,h1,u,vs'',rfl,h2,h3⟩:=hvs
 have h3:vs''=[]:=h3
 subst h3
 refine(h v u x.1 x.2.1 w (rV h1).raw (rV h2).raw hp.1 hp.2).mono ?_
 rintro e w' ⟨r,rfl,hr,hb⟩
 exact⟨r,rfl,KN hr,hb⟩
def cZ1 (g:Int->Int):Ctr:=⟨[tZ],[tZ],fun x=>isz x.1<=1000000000,fun x=>(g x.1,())⟩
theorem a7c {f:FuncId} {g:Int->Int} (h:∀ (v:Value) (x:Int) (w:World),Raw w v x->isz x<=1000000000->Calls Tryz.prog f #[v] w (kP (g x) w)):dI Tryz.prog f (cZ1 g):=by
 intro F w vs x hF hvs hp
 obtain⟨v,vs',rfl,h1,h3⟩:=hvs
 have h3:vs'=[]:=h3
 subst h3
 refine(h v x.1 w (rV h1).raw hp).mono ?_
 rintro e w' ⟨r,rfl,hr,hb⟩
 exact⟨r,rfl,KN hr,hb⟩
def cIZ:Ctr:=⟨[tI],[tZ],fun x=>bZ x.1,fun x=>(x.1,())⟩
theorem a6X {f:FuncId} (h:∀ (x:Int) (w:World),-9223372036854775808<=x->x<=9223372036854775807->Calls Tryz.prog f #[.int .i64 x] w (kP x w)):dI Tryz.prog f cIZ:=by
 intro F w vs x hF hvs hp
 obtain⟨v,vs',rfl,h1,h3⟩:=hvs
 have h3:vs'=[]:=h3
 subst h3
 rw[a0r h1]
 refine(h x.1 w hp.1 hp.2).mono ?_
 rintro e w' ⟨r,rfl,hr,hb⟩
 exact⟨r,rfl,KN hr,hb⟩
def cZI (g:Int->Int):Ctr:=⟨[tZ],[tI],fun x=>True,fun x=>(g x.1,())⟩
theorem b1I {f:FuncId} {g:Int->Int} (h:∀ (v:Value) (x:Int) (w:World),Raw w v x->Calls Tryz.prog f #[v] w (fun e w'=>e=.returned (.int .i64 (g x))/\Below w.heap.size w w')):dI Tryz.prog f (cZI g):=by
 intro F w vs x hF hvs hp
 obtain⟨v,vs',rfl,h1,h3⟩:=hvs
 have h3:vs'=[]:=h3
 subst h3
 refine(h v x.1 w (rV h1).raw).mono ?_
 rintro e w' ⟨rfl,hb⟩
 exact⟨_,rfl,uM _,hb⟩
def a7b:Ctr:=⟨[tZ],[tI,tB],fun x=>True,fun x=>(aI x.1,aN x.1,())⟩
theorem a4V {f:FuncId} (h:∀ (v:Value) (x:Int) (w:World),Raw w v x->Calls Tryz.prog f #[v] w (fun e w'=>e=.returned (.tuple #[.int .i64 (aI x),.bool (aN x)])/\Below w.heap.size w w')):dI Tryz.prog f a7b:=by
 intro F w vs x hF hvs hp
 obtain⟨v,vs',rfl,h1,h3⟩:=hvs
 have h3:vs'=[]:=h3
 subst h3
 refine(h v x.1 w (rV h1).raw).mono ?_
 rintro e w' ⟨rfl,hb⟩
 exact⟨_,rfl,⟨[_,_],rfl,_,_,rfl,uM _,_,_,rfl,RH _,rfl⟩,hb⟩
def cDiv:Ctr:=⟨[tZ,tZ],[tZ,tZ,tI],fun x=>isz x.1<=1000000000/\isz x.2.1<=1000000000/\(show Int from x.2.1)≠0,fun x=>(Int.fdiv x.1 x.2.1,Int.fmod x.1 x.2.1,(0:Int),())⟩
theorem a9y {f:FuncId} (h:∀ (v u:Value) (x y:Int) (w:World),Raw w v x->Raw w u y->isz x<=1000000000->isz y<=1000000000->y≠0->Calls Tryz.prog f #[v,u] w (MJ (x.fdiv y) (x.fmod y) w)):dI Tryz.prog f cDiv:=by
 intro F w vs x hF hvs hp
 obtain⟨v,vs',rfl,h1,u,vs'',rfl,h2,h3⟩:=hvs
 have h3:vs''=[]:=h3
 subst h3
 refine(h v u x.1 x.2.1 w (rV h1).raw (rV h2).raw hp.1 hp.2.1 hp.2.2).mono ?_
 rintro e w' ⟨v1,v2,rfl,h1,h2,hb⟩
 exact⟨_,rfl,⟨[_,_,_],rfl,_,_,rfl,KN h1,_,_,rfl,KN h2,_,_,rfl,uM _,rfl⟩,hb⟩
noncomputable def LZ:Lib:=(((((((LS2
 ).add 69 cIZ (a6X fun x w h0 h1=>DF x w h0 h1)
 ).add 133 (cZ2 fun x y=>((Int.gcd x y:Nat):Int)) (WH fun v u x y w h1 h2 l1 l2=>LM v u x y w h1 h2 l1 l2)
 ).add 71 (cZ2 fun x y=>x*y) (WH fun v u x y w h1 h2 l1 l2=>mul_any v u x y w h1 h2 l1 l2)
 ).add 134 (cZ1 fun x=>-x) (a7c fun v x w h1 l1=>uG v x w h1 l1)
 ).add 117 (cZI Int.sign) (b1I fun v x w h1=>vS v x w h1)
 ).add 135 a7b (a4V fun v x w h1=>a6m v x w h1)
 ).add 110 cDiv (a9y fun v u x y w h1 h2 l1 l2 hy=>oO v u x y w h1 h2 l1 l2 hy)
def xsL (l:List Int) (k:Nat):Int:=l.getD k 0
def b0Z:Ctr:=⟨[.arr 4 tZ],[mJ,tI],fun x=>(show List Int from x.1).length=4/\(∀ j,j<4->isz (xsL x.1 j)<=400000000)/\∃ j,j<4/\xsL x.1 j≠0,fun x=>aY (xsL x.1)⟩
abbrev Le4:Type:={i:Nat // i<=4}
theorem bad_eq (q:Int):(bif (bif !aN q then true else decide (aI q < -1048576)) then true else decide (aI q > 1048576))=!decide (okc q):=by
 by_cases h:okc q
 ·have h':=h
  unfold okc at h'
  have e1:aN q=true:=by unfold aN;rw[decide_eq_true_eq];omega
  have e2:aI q=q:=by unfold aI;rw[if_pos (by omega)]
  have a1:decide (q < -1048576)=false:=decide_eq_false (by omega)
  have a2:decide (q > 1048576)=false:=decide_eq_false (by omega)
  rw[e1,e2,a1,a2,decide_eq_true h];rfl
 ·by_cases hs:aN q=true
  ·have hs':=hs
   unfold aN at hs'
   rw[decide_eq_true_eq] at hs'
   have e2:aI q=q:=by unfold aI;rw[if_pos hs']
   have h3:q < -1048576\/q > 1048576:=by unfold okc at h;omega
   rw[hs,e2,decide_eq_false h]
   rcases h3 with h3|h3
   ·rw[decide_eq_true h3];rfl
   ·rw[decide_eq_true h3];cases decide (q < -1048576)<;>rfl
  ·have hs:=Bool.not_eq_true _ |>.mp hs
   rw[hs,decide_eq_false h];rfl
theorem sH {q:Int} (h:okc q):aI q=q:=by
 unfold okc at h
 unfold aI
 rw[if_pos (by omega)]
theorem SK:dI Tryz.prog 93 b0Z:=by
 refine fB LZ [2,4,5,7,8,10,11,12] Tryz.func93 rfl (by decide) (fun x=>[.inv Le4 (fun k=>[(17,.val tI (k.1:Int))]) (fun k=>[(2,.box [⟨tI,(0:Int)⟩,⟨tI,(0:Int)⟩,⟨tI,(0:Int)⟩,⟨tI,(0:Int)⟩]),(4,.box [⟨tZ,aO (xsL x.1) k.1⟩]),(5,.box [⟨tZ,kL (xsL x.1) k.1⟩])]) (fun k=>4-k.1) ⟨0,by omega⟩ (fun _=>[]),.turns 5 [34] [2,4,5,8] []]) (fun x hp=>?_)
 obtain⟨x,u⟩:=x
 change List Int at x
 refine iK (let x0z:=(True/\(0,0,0,0,())=Prod.fst (aY (xsL x))/\True/\3=Prod.fst (Prod.snd (aY (xsL x)))/\True);let x1z:=(List.getD x 0 0);let x2z:=(List.getD x 1 0);let x3z:=(List.getD x 2 0);let x4z:=(List.getD x 3 0);(asT Int 0=0/\asT Int 0=0/\asT Int 0=0/\asT Int 0=0/\asT Int 0=0/\0=aO (xsL x) 0/\0=kL (xsL x) 0/\True)/\∀ (i:Le4),asT Bool true=true/\ifB (decide (aF (aA i)<4)) ((0<=aF (aA i)/\aF (aA i)<4/\True)/\((isz (aO (xsL x) (aA i))<=1000000000/\isz (List.getD x (Int.toNat (aF (aA i))) 0)<=1000000000)/\True)/\(True/\True)/\ifB (Int.sign (kL (xsL x) (aA i))==0) (∃ (i':Le4),4-aA i'<4-aA i/\IntKind.wrap IntKind.i64 (aF (aA i)+1)=aF (aA i')/\asT Int 0=0/\asT Int 0=0/\asT Int 0=0/\asT Int 0=0/\aF (Int.gcd (aO (xsL x) (aA i)) (List.getD x (Int.toNat (aF (aA i))) 0))=aO (xsL x) (aA i')/\List.getD x (Int.toNat (aF (aA i))) 0=kL (xsL x) (aA i')/\True) (∃ (i':Le4),4-aA i'<4-aA i/\IntKind.wrap IntKind.i64 (aF (aA i)+1)=aF (aA i')/\asT Int 0=0/\asT Int 0=0/\asT Int 0=0/\asT Int 0=0/\aF (Int.gcd (aO (xsL x) (aA i)) (List.getD x (Int.toNat (aF (aA i))) 0))=aO (xsL x) (aA i')/\kL (xsL x) (aA i)=kL (xsL x) (aA i')/\True)) ((True/\True)/\ifB (decide (Int.sign (kL (xsL x) (aA i))<0)) ((isz (aO (xsL x) (aA i))<=1000000000/\True)/\(asT Int 0<=0/\asT Int 0<4/\True)/\((isz x1z<=1000000000/\isz (-aO (xsL x) (aA i))<=1000000000/\-aO (xsL x) (aA i)≠0)/\True)/\(True/\True)/\((((!aN (Int.fdiv x1z (-aO (xsL x) (aA i))))==false)=true->((!aN (Int.fdiv x1z (-aO (xsL x) (aA i))))==false)=true/\True)/\((!aN (Int.fdiv x1z (-aO (xsL x) (aA i))))=false->((!aN (Int.fdiv x1z (-aO (xsL x) (aA i))))==false)=true)/\(((bif !aN (Int.fdiv x1z (-aO (xsL x) (aA i))) then true else decide (aI (Int.fdiv x1z (-aO (xsL x) (aA i))) < -1048576))==false)=true->((bif !aN (Int.fdiv x1z (-aO (xsL x) (aA i))) then true else decide (aI (Int.fdiv x1z (-aO (xsL x) (aA i))) < -1048576))==false)=true/\True)/\((bif !aN (Int.fdiv x1z (-aO (xsL x) (aA i))) then true else decide (aI (Int.fdiv x1z (-aO (xsL x) (aA i))) < -1048576))=false->((bif !aN (Int.fdiv x1z (-aO (xsL x) (aA i))) then true else decide (aI (Int.fdiv x1z (-aO (xsL x) (aA i))) < -1048576))==false)=true)/\True)/\ifB (bif bif !aN (Int.fdiv x1z (-aO (xsL x) (aA i))) then true else decide (aI (Int.fdiv x1z (-aO (xsL x) (aA i))) < -1048576) then true else decide (aI (Int.fdiv x1z (-aO (xsL x) (aA i))) > 1048576)) x0z ((asT Int 0=0/\asT Int 0=0/\asT Int 0=0/\asT Int 0=0/\-aO (xsL x) (aA i)=-aO (xsL x) (aA i)/\kL (xsL x) (aA i)=kL (xsL x) (aA i)/\aI (Int.fdiv x1z (-aO (xsL x) (aA i)))=aI (Int.fdiv x1z (-aO (xsL x) (aA i)))/\asT Int 0=0/\asT Int 0=0/\asT Int 0=0/\True)/\asT Bool true=true/\(asT Int 0<=1/\asT Int 1<4/\True)/\((isz x2z<=1000000000/\isz (-aO (xsL x) (aA i))<=1000000000/\-aO (xsL x) (aA i)≠0)/\True)/\(True/\True)/\((((!aN (Int.fdiv x2z (-aO (xsL x) (aA i))))==false)=true->((!aN (Int.fdiv x2z (-aO (xsL x) (aA i))))==false)=true/\True)/\((!aN (Int.fdiv x2z (-aO (xsL x) (aA i))))=false->((!aN (Int.fdiv x2z (-aO (xsL x) (aA i))))==false)=true)/\(((bif !aN (Int.fdiv x2z (-aO (xsL x) (aA i))) then true else decide (aI (Int.fdiv x2z (-aO (xsL x) (aA i))) < -1048576))==false)=true->((bif !aN (Int.fdiv x2z (-aO (xsL x) (aA i))) then true else decide (aI (Int.fdiv x2z (-aO (xsL x) (aA i))) < -1048576))==false)=true/\True)/\((bif !aN (Int.fdiv x2z (-aO (xsL x) (aA i))) then true else decide (aI (Int.fdiv x2z (-aO (xsL x) (aA i))) < -1048576))=false->((bif !aN (Int.fdiv x2z (-aO (xsL x) (aA i))) then true else decide (aI (Int.fdiv x2z (-aO (xsL x) (aA i))) < -1048576))==false)=true)/\True)/\ifB (bif bif !aN (Int.fdiv x2z (-aO (xsL x) (aA i))) then true else decide (aI (Int.fdiv x2z (-aO (xsL x) (aA i))) < -1048576) then true else decide (aI (Int.fdiv x2z (-aO (xsL x) (aA i))) > 1048576)) x0z ((asT Int 0=0/\asT Int 0=0/\asT Int 0=0/\asT Int 0=0/\-aO (xsL x) (aA i)=-aO (xsL x) (aA i)/\kL (xsL x) (aA i)=kL (xsL x) (aA i)/\aI (Int.fdiv x1z (-aO (xsL x) (aA i)))=aI (Int.fdiv x1z (-aO (xsL x) (aA i)))/\aI (Int.fdiv x2z (-aO (xsL x) (aA i)))=aI (Int.fdiv x2z (-aO (xsL x) (aA i)))/\asT Int 0=0/\asT Int 0=0/\True)/\asT Bool true=true/\(asT Int 0<=2/\asT Int 2<4/\True)/\((isz x3z<=1000000000/\isz (-aO (xsL x) (aA i))<=1000000000/\-aO (xsL x) (aA i)≠0)/\True)/\(True/\True)/\((((!aN (Int.fdiv x3z (-aO (xsL x) (aA i))))==false)=true->((!aN (Int.fdiv x3z (-aO (xsL x) (aA i))))==false)=true/\True)/\((!aN (Int.fdiv x3z (-aO (xsL x) (aA i))))=false->((!aN (Int.fdiv x3z (-aO (xsL x) (aA i))))==false)=true)/\(((bif !aN (Int.fdiv x3z (-aO (xsL x) (aA i))) then true else decide (aI (Int.fdiv x3z (-aO (xsL x) (aA i))) < -1048576))==false)=true->((bif !aN (Int.fdiv x3z (-aO (xsL x) (aA i))) then true else decide (aI (Int.fdiv x3z (-aO (xsL x) (aA i))) < -1048576))==false)=true/\True)/\((bif !aN (Int.fdiv x3z (-aO (xsL x) (aA i))) then true else decide (aI (Int.fdiv x3z (-aO (xsL x) (aA i))) < -1048576))=false->((bif !aN (Int.fdiv x3z (-aO (xsL x) (aA i))) then true else decide (aI (Int.fdiv x3z (-aO (xsL x) (aA i))) < -1048576))==false)=true)/\True)/\ifB (bif bif !aN (Int.fdiv x3z (-aO (xsL x) (aA i))) then true else decide (aI (Int.fdiv x3z (-aO (xsL x) (aA i))) < -1048576) then true else decide (aI (Int.fdiv x3z (-aO (xsL x) (aA i))) > 1048576)) x0z ((asT Int 0=0/\asT Int 0=0/\asT Int 0=0/\asT Int 0=0/\-aO (xsL x) (aA i)=-aO (xsL x) (aA i)/\kL (xsL x) (aA i)=kL (xsL x) (aA i)/\aI (Int.fdiv x1z (-aO (xsL x) (aA i)))=aI (Int.fdiv x1z (-aO (xsL x) (aA i)))/\aI (Int.fdiv x2z (-aO (xsL x) (aA i)))=aI (Int.fdiv x2z (-aO (xsL x) (aA i)))/\aI (Int.fdiv x3z (-aO (xsL x) (aA i)))=aI (Int.fdiv x3z (-aO (xsL x) (aA i)))/\asT Int 0=0/\True)/\asT Bool true=true/\(asT Int 0<=3/\asT Int 3<4/\True)/\((isz x4z<=1000000000/\isz (-aO (xsL x) (aA i))<=1000000000/\-aO (xsL x) (aA i)≠0)/\True)/\(True/\True)/\((((!aN (Int.fdiv x4z (-aO (xsL x) (aA i))))==false)=true->((!aN (Int.fdiv x4z (-aO (xsL x) (aA i))))==false)=true/\True)/\((!aN (Int.fdiv x4z (-aO (xsL x) (aA i))))=false->((!aN (Int.fdiv x4z (-aO (xsL x) (aA i))))==false)=true)/\(((bif !aN (Int.fdiv x4z (-aO (xsL x) (aA i))) then true else decide (aI (Int.fdiv x4z (-aO (xsL x) (aA i))) < -1048576))==false)=true->((bif !aN (Int.fdiv x4z (-aO (xsL x) (aA i))) then true else decide (aI (Int.fdiv x4z (-aO (xsL x) (aA i))) < -1048576))==false)=true/\True)/\((bif !aN (Int.fdiv x4z (-aO (xsL x) (aA i))) then true else decide (aI (Int.fdiv x4z (-aO (xsL x) (aA i))) < -1048576))=false->((bif !aN (Int.fdiv x4z (-aO (xsL x) (aA i))) then true else decide (aI (Int.fdiv x4z (-aO (xsL x) (aA i))) < -1048576))==false)=true)/\True)/\ifB (bif bif !aN (Int.fdiv x4z (-aO (xsL x) (aA i))) then true else decide (aI (Int.fdiv x4z (-aO (xsL x) (aA i))) < -1048576) then true else decide (aI (Int.fdiv x4z (-aO (xsL x) (aA i))) > 1048576)) x0z ((asT Int 0=0/\asT Int 0=0/\asT Int 0=0/\asT Int 0=0/\-aO (xsL x) (aA i)=-aO (xsL x) (aA i)/\kL (xsL x) (aA i)=kL (xsL x) (aA i)/\aI (Int.fdiv x1z (-aO (xsL x) (aA i)))=aI (Int.fdiv x1z (-aO (xsL x) (aA i)))/\aI (Int.fdiv x2z (-aO (xsL x) (aA i)))=aI (Int.fdiv x2z (-aO (xsL x) (aA i)))/\aI (Int.fdiv x3z (-aO (xsL x) (aA i)))=aI (Int.fdiv x3z (-aO (xsL x) (aA i)))/\aI (Int.fdiv x4z (-aO (xsL x) (aA i)))=aI (Int.fdiv x4z (-aO (xsL x) (aA i)))/\True)/\asT Bool true=true/\True/\(aI (Int.fdiv x1z (-aO (xsL x) (aA i))),aI (Int.fdiv x2z (-aO (xsL x) (aA i))),aI (Int.fdiv x3z (-aO (xsL x) (aA i))),aI (Int.fdiv x4z (-aO (xsL x) (aA i))),())=Prod.fst (aY (xsL x))/\True/\0=Prod.fst (Prod.snd (aY (xsL x)))/\True))))) ((asT Int 0<=0/\asT Int 0<4/\True)/\((isz x1z<=1000000000/\isz (aO (xsL x) (aA i))<=1000000000/\aO (xsL x) (aA i)≠0)/\True)/\(True/\True)/\((((!aN (Int.fdiv x1z (aO (xsL x) (aA i))))==false)=true->((!aN (Int.fdiv x1z (aO (xsL x) (aA i))))==false)=true/\True)/\((!aN (Int.fdiv x1z (aO (xsL x) (aA i))))=false->((!aN (Int.fdiv x1z (aO (xsL x) (aA i))))==false)=true)/\(((bif !aN (Int.fdiv x1z (aO (xsL x) (aA i))) then true else decide (aI (Int.fdiv x1z (aO (xsL x) (aA i))) < -1048576))==false)=true->((bif !aN (Int.fdiv x1z (aO (xsL x) (aA i))) then true else decide (aI (Int.fdiv x1z (aO (xsL x) (aA i))) < -1048576))==false)=true/\True)/\((bif !aN (Int.fdiv x1z (aO (xsL x) (aA i))) then true else decide (aI (Int.fdiv x1z (aO (xsL x) (aA i))) < -1048576))=false->((bif !aN (Int.fdiv x1z (aO (xsL x) (aA i))) then true else decide (aI (Int.fdiv x1z (aO (xsL x) (aA i))) < -1048576))==false)=true)/\True)/\ifB (bif bif !aN (Int.fdiv x1z (aO (xsL x) (aA i))) then true else decide (aI (Int.fdiv x1z (aO (xsL x) (aA i))) < -1048576) then true else decide (aI (Int.fdiv x1z (aO (xsL x) (aA i))) > 1048576)) x0z ((asT Int 0=0/\asT Int 0=0/\asT Int 0=0/\asT Int 0=0/\aO (xsL x) (aA i)=aO (xsL x) (aA i)/\kL (xsL x) (aA i)=kL (xsL x) (aA i)/\aI (Int.fdiv x1z (aO (xsL x) (aA i)))=aI (Int.fdiv x1z (aO (xsL x) (aA i)))/\asT Int 0=0/\asT Int 0=0/\asT Int 0=0/\True)/\asT Bool true=true/\(asT Int 0<=1/\asT Int 1<4/\True)/\((isz x2z<=1000000000/\isz (aO (xsL x) (aA i))<=1000000000/\aO (xsL x) (aA i)≠0)/\True)/\(True/\True)/\((((!aN (Int.fdiv x2z (aO (xsL x) (aA i))))==false)=true->((!aN (Int.fdiv x2z (aO (xsL x) (aA i))))==false)=true/\True)/\((!aN (Int.fdiv x2z (aO (xsL x) (aA i))))=false->((!aN (Int.fdiv x2z (aO (xsL x) (aA i))))==false)=true)/\(((bif !aN (Int.fdiv x2z (aO (xsL x) (aA i))) then true else decide (aI (Int.fdiv x2z (aO (xsL x) (aA i))) < -1048576))==false)=true->((bif !aN (Int.fdiv x2z (aO (xsL x) (aA i))) then true else decide (aI (Int.fdiv x2z (aO (xsL x) (aA i))) < -1048576))==false)=true/\True)/\((bif !aN (Int.fdiv x2z (aO (xsL x) (aA i))) then true else decide (aI (Int.fdiv x2z (aO (xsL x) (aA i))) < -1048576))=false->((bif !aN (Int.fdiv x2z (aO (xsL x) (aA i))) then true else decide (aI (Int.fdiv x2z (aO (xsL x) (aA i))) < -1048576))==false)=true)/\True)/\ifB (bif bif !aN (Int.fdiv x2z (aO (xsL x) (aA i))) then true else decide (aI (Int.fdiv x2z (aO (xsL x) (aA i))) < -1048576) then true else decide (aI (Int.fdiv x2z (aO (xsL x) (aA i))) > 1048576)) x0z ((asT Int 0=0/\asT Int 0=0/\asT Int 0=0/\asT Int 0=0/\aO (xsL x) (aA i)=aO (xsL x) (aA i)/\kL (xsL x) (aA i)=kL (xsL x) (aA i)/\aI (Int.fdiv x1z (aO (xsL x) (aA i)))=aI (Int.fdiv x1z (aO (xsL x) (aA i)))/\aI (Int.fdiv x2z (aO (xsL x) (aA i)))=aI (Int.fdiv x2z (aO (xsL x) (aA i)))/\asT Int 0=0/\asT Int 0=0/\True)/\asT Bool true=true/\(asT Int 0<=2/\asT Int 2<4/\True)/\((isz x3z<=1000000000/\isz (aO (xsL x) (aA i))<=1000000000/\aO (xsL x) (aA i)≠0)/\True)/\(True/\True)/\((((!aN (Int.fdiv x3z (aO (xsL x) (aA i))))==false)=true->((!aN (Int.fdiv x3z (aO (xsL x) (aA i))))==false)=true/\True)/\((!aN (Int.fdiv x3z (aO (xsL x) (aA i))))=false->((!aN (Int.fdiv x3z (aO (xsL x) (aA i))))==false)=true)/\(((bif !aN (Int.fdiv x3z (aO (xsL x) (aA i))) then true else decide (aI (Int.fdiv x3z (aO (xsL x) (aA i))) < -1048576))==false)=true->((bif !aN (Int.fdiv x3z (aO (xsL x) (aA i))) then true else decide (aI (Int.fdiv x3z (aO (xsL x) (aA i))) < -1048576))==false)=true/\True)/\((bif !aN (Int.fdiv x3z (aO (xsL x) (aA i))) then true else decide (aI (Int.fdiv x3z (aO (xsL x) (aA i))) < -1048576))=false->((bif !aN (Int.fdiv x3z (aO (xsL x) (aA i))) then true else decide (aI (Int.fdiv x3z (aO (xsL x) (aA i))) < -1048576))==false)=true)/\True)/\ifB (bif bif !aN (Int.fdiv x3z (aO (xsL x) (aA i))) then true else decide (aI (Int.fdiv x3z (aO (xsL x) (aA i))) < -1048576) then true else decide (aI (Int.fdiv x3z (aO (xsL x) (aA i))) > 1048576)) x0z ((asT Int 0=0/\asT Int 0=0/\asT Int 0=0/\asT Int 0=0/\aO (xsL x) (aA i)=aO (xsL x) (aA i)/\kL (xsL x) (aA i)=kL (xsL x) (aA i)/\aI (Int.fdiv x1z (aO (xsL x) (aA i)))=aI (Int.fdiv x1z (aO (xsL x) (aA i)))/\aI (Int.fdiv x2z (aO (xsL x) (aA i)))=aI (Int.fdiv x2z (aO (xsL x) (aA i)))/\aI (Int.fdiv x3z (aO (xsL x) (aA i)))=aI (Int.fdiv x3z (aO (xsL x) (aA i)))/\asT Int 0=0/\True)/\asT Bool true=true/\(asT Int 0<=3/\asT Int 3<4/\True)/\((isz x4z<=1000000000/\isz (aO (xsL x) (aA i))<=1000000000/\aO (xsL x) (aA i)≠0)/\True)/\(True/\True)/\((((!aN (Int.fdiv x4z (aO (xsL x) (aA i))))==false)=true->((!aN (Int.fdiv x4z (aO (xsL x) (aA i))))==false)=true/\True)/\((!aN (Int.fdiv x4z (aO (xsL x) (aA i))))=false->((!aN (Int.fdiv x4z (aO (xsL x) (aA i))))==false)=true)/\(((bif !aN (Int.fdiv x4z (aO (xsL x) (aA i))) then true else decide (aI (Int.fdiv x4z (aO (xsL x) (aA i))) < -1048576))==false)=true->((bif !aN (Int.fdiv x4z (aO (xsL x) (aA i))) then true else decide (aI (Int.fdiv x4z (aO (xsL x) (aA i))) < -1048576))==false)=true/\True)/\((bif !aN (Int.fdiv x4z (aO (xsL x) (aA i))) then true else decide (aI (Int.fdiv x4z (aO (xsL x) (aA i))) < -1048576))=false->((bif !aN (Int.fdiv x4z (aO (xsL x) (aA i))) then true else decide (aI (Int.fdiv x4z (aO (xsL x) (aA i))) < -1048576))==false)=true)/\True)/\ifB (bif bif !aN (Int.fdiv x4z (aO (xsL x) (aA i))) then true else decide (aI (Int.fdiv x4z (aO (xsL x) (aA i))) < -1048576) then true else decide (aI (Int.fdiv x4z (aO (xsL x) (aA i))) > 1048576)) x0z ((asT Int 0=0/\asT Int 0=0/\asT Int 0=0/\asT Int 0=0/\aO (xsL x) (aA i)=aO (xsL x) (aA i)/\kL (xsL x) (aA i)=kL (xsL x) (aA i)/\aI (Int.fdiv x1z (aO (xsL x) (aA i)))=aI (Int.fdiv x1z (aO (xsL x) (aA i)))/\aI (Int.fdiv x2z (aO (xsL x) (aA i)))=aI (Int.fdiv x2z (aO (xsL x) (aA i)))/\aI (Int.fdiv x3z (aO (xsL x) (aA i)))=aI (Int.fdiv x3z (aO (xsL x) (aA i)))/\aI (Int.fdiv x4z (aO (xsL x) (aA i)))=aI (Int.fdiv x4z (aO (xsL x) (aA i)))/\True)/\asT Bool true=true/\True/\(aI (Int.fdiv x1z (aO (xsL x) (aA i))),aI (Int.fdiv x2z (aO (xsL x) (aA i))),aI (Int.fdiv x3z (aO (xsL x) (aA i))),aI (Int.fdiv x4z (aO (xsL x) (aA i))),())=Prod.fst (aY (xsL x))/\True/\0=Prod.fst (Prod.snd (aY (xsL x)))/\True))))))) (by kernel_rfl) ?_
 obtain⟨hl,hb,hn⟩:=hp
 dsimp only[aF,aA,asT,aB,iC] at *
 simp only[bad_eq,fA,true_and,and_true,imp_self,Bool.not_eq_true',Bool.not_eq_false',decide_eq_true_eq,decide_eq_false_iff_not,Int.toNat_natCast,true_implies,implies_true,beq_iff_eq,bne_iff_ne,ne_eq,beq_eq_false_iff_ne,bne_eq_false_iff_eq]
 have hx:∀ j,x.getD j 0=xsL x j:=fun _=>rfl
 simp only[hx]
 generalize xsL x=X at *
 have gs:∀ k,k<=4->isz (aO X k)<=1000000000:=fun k hk=>Nat.le_trans (EL (K:=400000000) k (fun j hj=>hb j (by omega))) (by omega)
 have xs:∀ j,j<4->isz (X j)<=1000000000:=fun j hj=>Nat.le_trans (hb j hj) (by omega)
 refine⟨⟨rfl,rfl⟩,fun i=>⟨fun h1=>?_,fun h1=>?_⟩⟩
 ·have hi:=i.2
  refine⟨⟨by omega,by omega⟩,⟨gs _ hi,xs _ (by omega)⟩,fun h2=>⟨⟨i.1+1,by omega⟩,by simp only;omega,?_,rfl,?_⟩,fun h2=>⟨⟨i.1+1,by omega⟩,by simp only;omega,?_,rfl,?_⟩⟩
  ·rw[dR (by omega) (by omega)];rfl
  ·rw[Int.sign_eq_zero_iff_zero] at h2
   simp only[kL,if_pos h2]
  ·rw[dR (by omega) (by omega)];rfl
  ·rw[Int.sign_eq_zero_iff_zero] at h2
   simp only[kL,if_neg h2]
 ·have hi:=i.2
  have hi:i.1=4:=by omega
  rw[hi]
  have g0:kF X≠0:=by obtain⟨j,h1,h2⟩:=hn;exact a0J h1 h2
  have tl:∀ G,kF X=G->isz G<=1000000000->(∀ j,j<4->¬ okc ((X j).fdiv G)->(0,0,0,0,())=(aY X).1/\3=(aY X).2.1)/\(okc ((X 0).fdiv G)->okc ((X 1).fdiv G)->okc ((X 2).fdiv G)->okc ((X 3).fdiv G)->(aI ((X 0).fdiv G),aI ((X 1).fdiv G),aI ((X 2).fdiv G),aI ((X 3).fdiv G),())=(aY X).1/\0=(aY X).2.1):=by
   rintro G rfl hG
   refine⟨fun j hj h=>?_,fun k0 k1 k2 k3=>?_⟩
   ·have:aY X=((0,0,0,0,()),3,()):=if_neg (fun e=>h (e j hj))
    rw[this];exact⟨rfl,rfl⟩
   ·have:aY X=((kW X 0,kW X 1,kW X 2,kW X 3,()),0,()):=if_pos (fun j hj=>by
     match j,hj with
     | 0,_=>exact k0
     | 1,_=>exact k1
     | 2,_=>exact k2
     | 3,_=>exact k3)
    rw[this,sH k0,sH k1,sH k2,sH k3];exact⟨rfl,rfl⟩
  have g4:=gs 4 (by omega)
  refine⟨fun h2=>?_,fun h2=>?_⟩
  ·rw[Int.sign_neg_iff] at h2
   have hG:kF X=-aO X 4:=if_pos h2
   have g5:isz (-aO X 4)<=1000000000:=by rw[mQ];exact g4
   obtain⟨no,yes⟩:=tl _ hG g5
   rw[hG] at g0
   exact⟨g4,⟨by omega,by omega⟩,⟨xs 0 (by omega),g5,g0⟩,no 0 (by omega),fun k0=>⟨⟨by omega,by omega⟩,⟨xs 1 (by omega),g5,g0⟩,no 1 (by omega),fun k1=>⟨⟨by omega,by omega⟩,⟨xs 2 (by omega),g5,g0⟩,no 2 (by omega),fun k2=>⟨⟨by omega,by omega⟩,⟨xs 3 (by omega),g5,g0⟩,no 3 (by omega),fun k3=>yes k0 k1 k2 k3⟩⟩⟩⟩
  ·rw[Int.sign_neg_iff] at h2
   have hG:kF X=aO X 4:=if_neg h2
   obtain⟨no,yes⟩:=tl _ hG g4
   rw[hG] at g0
   exact⟨⟨by omega,by omega⟩,⟨xs 0 (by omega),g4,g0⟩,no 0 (by omega),fun k0=>⟨⟨by omega,by omega⟩,⟨xs 1 (by omega),g4,g0⟩,no 1 (by omega),fun k1=>⟨⟨by omega,by omega⟩,⟨xs 2 (by omega),g4,g0⟩,no 2 (by omega),fun k2=>⟨⟨by omega,by omega⟩,⟨xs 3 (by omega),g4,g0⟩,no 3 (by omega),fun k3=>yes k0 k1 k2 k3⟩⟩⟩⟩
noncomputable def LP:Lib:=LZ.add 93 b0Z SK
end Go.Proofs.YtidfgdchcpmnfaaGreat
