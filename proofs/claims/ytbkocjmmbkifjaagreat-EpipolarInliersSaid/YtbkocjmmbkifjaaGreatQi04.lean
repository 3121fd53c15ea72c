/-
  Lemmas for the theorem vinliers_holds, part 4 of 32.
-/
import Derived.BigQuiet
import Derived.Deep.CutBlock
import Derived.Deep.DeepCutAuto
import Derived.Deep.LoopGhost
import Derived.Deep.QuietTactic
import Derived.Test.YtbkocjmmbkifjaaGreatQi03
namespace Go.Proofs.YtbkocjmmbkifjaaGreat
open Go Go.RowKit
theorem zy:type_of% @Nat.add_mul:=@Nat.add_mul
set_option linter.unusedVariables false
theorem ZO {l:List Nat} {k v:Nat} (h:k<l.length):val (l.set k v)+BB ^ k*gr l k=val l+BB ^ k*v:=by
 induction l generalizing k with
 | nil=>simp at h
 | cons g l ih =>
  cases k with
  | zero=>simp[bP,gr];omega
  | succ k =>
   have:=ih (k:=k) (by simpa using h)
   have e:gr (g::l) (k+1)=gr l k:=by simp[gr]
   rw[List.set_cons_succ,bP,bP,e,Nat.pow_succ]
   generalize val (l.set k v)=a at *
   generalize BB ^ k=p at *
   grind
theorem a0E {X D P T m g xl:Nat} (hX:X=T*P+xl) (hxl:xl<P) (hD:m*P<=D) (h:T<g*m):X<g*D:=by
 have h1:(T+1)*P<=g*m*P:=ku _ h
 have h2:g*(m*P)<=g*D:=zf _ hD
 rw[Nat.mul_assoc] at h1
 have h3:(T+1)*P=T*P+P:=by rw[zy,Nat.one_mul]
 omega
theorem a7F {X D P T m g:Nat} (hX:T*P<=X) (hD:D<(m+1)*P) (hg:g<=m+1) (h:g*m<=T):g*D<=X+D:=by
 cases g with
 | zero=>simp
 | succ g =>
  have h1:g*D<=g*((m+1)*P):=zf _ (by omega)
  have h2:g*(m+1)<=T:=by
   have:(g+1)*m=g*m+m:=by rw[zy,Nat.one_mul]
   have:g*(m+1)=g*m+g:=by rw[Nat.mul_add,Nat.mul_one]
   omega
  have h3:g*(m+1)*P<=T*P:=ku _ h2
  rw[Nat.mul_assoc] at h3
  have h4:(g+1)*D=g*D+D:=by rw[zy,Nat.one_mul]
  omega
structure jG (S V n L:Nat) (u q:List Nat) (k:Nat):Prop where
 lu:u.length=L
 low:Low u
 lq:q.length+n=L
 b4y:Low q
 zero:∀ m,m<k->gr q m=0
 eq:val u+V*val q=S
 lt:val u<V*BB ^ k
structure a3m (X D g:Nat):Prop where
 hi:X<(g+1)*D
 lo:g*D<=X+D
theorem RN (l:List Nat) (k:Nat):val l=val (l.take k)+BB ^ (min k l.length)*val (l.drop k):=by
 conv=>lhs;rw[<-Aj k l]
 rw[val_append,jy]
theorem a8t {l:List Nat} (h:l≠[]):l.getLast?=some (gr l (l.length-1)):=by
 have:0<l.length:=oq.2 h
 rw[List.getLast?_eq_getElem?,oG (by omega)]
 exact dn _
theorem MX {l:List Nat} {k:Nat} (h:∀ m,k<=m->gr l m=0):val l=val (l.take k):=by
 by_cases hk:k<l.length
 ·rw[RN l k]
  have:val (l.drop k)=0:=by
   suffices ∀ r:List Nat,(∀ m,gr r m=0)->val r=0 by
    refine this _ (fun m=>?_)
    have:=h (k+m) (by omega)
    simpa [gr,List.getElem?_drop] using this
   intro r
   induction r with
   | nil=>intro _;rfl
   | cons g r ih =>
    intro hz
    have h0:=hz 0
    have h1:=ih (fun m=>by have:=hz (m+1);simpa [gr] using this)
    simp[gr] at h0
    rw[bP,h0,h1];simp
  rw[this];simp
 ·rw[jh (by omega)]
structure wB (u v o:List Nat) (L g j i bo ca:Nat):Prop where
 len:o.length=L
 low:Low o
 same:∀ m,j+i<=m->gr o m=gr u m
 vl:val (o.take (j+i))+BB ^ j*(g*val (v.take i))=val (u.take (j+i))+BB ^ (j+i)*(bo+ca)
 bor:bo<=1
 car:ca<1000000000
theorem wB.start {u v:List Nat} {L g j:Nat} (h1:u.length=L) (h2:Low u):wB u v u L g j 0 0 0:=⟨h1,h2,fun _ _=>rfl,by simp,by omega,by omega⟩
theorem wB.step {u v o:List Nat} {L g j i bo ca d bo':Nat} (h:wB u v o L g j i bo ca) (hg:g<1000000000) (hv:gr v i<1000000000) (hk:j+i<L)
  (hd:d<1000000000) (hb:bo'<=1) (he:gr o (j+i)+1000000000*bo'=d+bo+(g*gr v i+ca)%1000000000) :
  wB u v (o.set (j+i) d) L g j (i+1) bo' ((g*gr v i+ca) / 1000000000):=by
 have hl:j+i<o.length:=by rw[h.len];exact hk
 have hc:=h.car
 have hm:g*gr v i<=999999999*999999999:=vw (by omega) (by omega)
 refine⟨by simp[h.len],low_set h.low hd,?_,?_,hb,by omega⟩
 ·intro m hm
  rw[yP hl,jk (by omega)]
  exact h.same m (by omega)
 ·have e1:=h.vl
  have e2:=h.same (j+i) (ak _)
  have e3:=aW u (j+i)
  have e4:=aW v i
  rw[show j+(i+1)=(j+i)+1 from by omega,eU hl,val_append,jy,xu (by omega),e3,e4,<-e2]
  simp only[bP,qV]
  have e5:=Nat.mod_add_div (g*gr v i+ca) 1000000000
  generalize (g*gr v i+ca)%1000000000=r at *
  generalize (g*gr v i+ca) / 1000000000=c' at *
  rw[Nat.pow_succ,Dj] at *
  rw[bI] at *
  have e6:1000000000 ^ j*1000000000 ^ i*(r+1000000000*c')=1000000000 ^ j*1000000000 ^ i*(g*gr v i+ca):=by rw[e5]
  have e7:1000000000 ^ j*1000000000 ^ i*(gr o (j+i)+1000000000*bo')=1000000000 ^ j*1000000000 ^ i*(d+bo+r):=by rw[he]
  grind
structure xY (u v o:List Nat) (L j i c:Nat):Prop where
 len:o.length=L
 low:Low o
 same:∀ m,j+i<=m->gr o m=gr u m
 vl:val (o.take (j+i))+BB ^ (j+i)*c=val (u.take (j+i))+BB ^ j*val (v.take i)
 car:c<=1
theorem xY.start {u v:List Nat} {L j:Nat} (h1:u.length=L) (h2:Low u):xY u v u L j 0 0:=⟨h1,h2,fun _ _=>rfl,by simp,by omega⟩
theorem xY.step {u v o:List Nat} {L j i c d c':Nat} (h:xY u v o L j i c) (hk:j+i<L) (hd:d<1000000000) (hc:c'<=1) (he:gr o (j+i)+gr v i+c=d+1000000000*c') :
  xY u v (o.set (j+i) d) L j (i+1) c':=by
 have hl:j+i<o.length:=by rw[h.len];exact hk
 refine⟨by simp[h.len],low_set h.low hd,?_,?_,hc⟩
 ·intro m hm
  rw[yP hl,jk (by omega)]
  exact h.same m (by omega)
 ·have e1:=h.vl
  have e2:=h.same (j+i) (ak _)
  have e3:=aW u (j+i)
  have e4:=aW v i
  rw[show j+(i+1)=(j+i)+1 from by omega,eU hl,val_append,jy,xu (by omega),e3,e4,<-e2]
  simp only[bP,qV]
  rw[Nat.pow_succ,Dj] at *
  rw[bI] at *
  have e7:1000000000 ^ j*1000000000 ^ i*(gr o (j+i)+gr v i+c)=1000000000 ^ j*1000000000 ^ i*(d+1000000000*c'):=by rw[he]
  grind
theorem rX {l:List Nat} {k m:Nat} (hv:val l<BB ^ k) (hk:k<=m):gr l m=0:=by
 rcases yj (gr l m) with h|h
 ·exact h
 ·exfalso
  have h1:=aW l m
  have h2:val (l.take (m+1))<=val l:=by rw[RN l (m+1)];omega
  have h3:BB ^ m*1<=BB ^ m*gr l m:=zf _ h
  have h4:BB ^ k<=BB ^ m:=yc gV hk
  omega
theorem mW {l:List Nat} (h:Low l) (k:Nat):val (l.take k)<BB ^ k :=
 ni (mG (h.take k)) (yc gV (by rw[jy];omega))
theorem xE {v:List Nat} {n:Nat} (h:Low v) (hn:v.length=n):val v<BB ^ n:=by subst hn;exact mG h
theorem jG.bound {S n L j:Nat} {u q v:List Nat} (h:jG S (val v) n L u q (j+1)) (hv:Low v) (hn:v.length=n):val u<BB ^ (j+n+1):=by
 have h1:=h.lt
 have h2:=xE hv hn
 have h3:val v*BB ^ (j+1)<=BB ^ n*BB ^ (j+1):=ku _ (by omega)
 rw[<-Dj] at h3
 rw[show j+n+1=n+(j+1) from by omega]
 omega
theorem jG.top {S n L j:Nat} {u q v:List Nat} (h:jG S (val v) n L u q (j+1)) (hv:Low v) (hn:v.length=n):val u=val (u.take (j+n))+BB ^ (j+n)*gr u (j+n):=by
 rw[<-aW]
 exact MX (fun m hm=>rX (h.bound hv hn) hm)
structure a1M (X D v1 v2 uh u1 u2 P:Nat):Prop where
 x:∃ xl,X=((uh*BB+u1)*BB+u2)*P+xl/\xl<P
 d1:(v1*BB+v2)*P<=D
 d2:D<(v1*BB+v2+1)*P
 xb:X<BB*D
 uv:uh<=v1
 v1p:1<=v1
 b1:v1<1000000000
 b2:v2<1000000000
 b3:u1<1000000000
 b4:u2<1000000000
theorem jG.c0D {S n L j:Nat} {u q v:List Nat} (h:jG S (val v) n L u q (j+1)) (hv:Canon v) (hn:v.length=n) (h2:2<=n) :
  a1M (val u) (BB ^ j*val v) (gr v (n-1)) (gr v (n-2)) (gr u (j+n)) (gr u (j+n-1)) (gr u (j+n-2)) (BB ^ (j+n-2)):=by
 obtain⟨m,rfl⟩:∃ m,n=m+2:=⟨n-2,by omega⟩
 have hne:v≠[]:=by intro e;subst e;simp at hn
 have hp:1<=gr v (m+1):=by
  have:=hv.2
  rw[a8t hne,hn] at this
  have h3:gr v (m+2-1)≠0:=by simpa using this
  have:m+2-1=m+1:=by omega
  rw[this] at h3
  omega
 have e1:m+2-1=m+1:=by omega
 have e2:m+2-2=m:=by omega
 have e3:j+(m+2)-1=j+m+1:=by omega
 have e4:j+(m+2)-2=j+m:=by omega
 have e5:j+(m+2)=j+m+2:=by omega
 have hV:val v=val (v.take m)+BB ^ m*gr v m+BB ^ (m+1)*gr v (m+1):=by
  rw[<-aW,<-aW,dU (by omega)]
 have hX:val u=val (u.take (j+m))+BB ^ (j+m)*gr u (j+m)+BB ^ (j+m+1)*gr u (j+m+1)+BB ^ (j+m+2)*gr u (j+m+2):=by
  rw[<-aW,<-aW,<-aW]
  exact MX (fun k hk=>rX (h.bound hv.1 hn) (by omega))
 have hvl:=mW hv.1 m
 have hul:=mW h.low (j+m)
 have hlt:=h.lt
 rw[e1,e2,e3,e4,e5]
 have hP:BB ^ (j+m)=BB ^ j*BB ^ m:=Dj _ _ _
 have hd:BB ^ j*val v=(gr v (m+1)*BB+gr v m)*BB ^ (j+m)+BB ^ j*val (v.take m):=by
  rw[hV,hP,Nat.pow_succ]
  grind
 have hd2:BB ^ j*val (v.take m)<BB ^ (j+m):=by
  rw[hP]
  exact Nat.mul_lt_mul_of_pos_left hvl (Nat.pow_pos gV)
 refine⟨⟨val (u.take (j+m)),?_,hul⟩,?_,?_,?_,?_,hp,CV hv.1 _,CV hv.1 _,CV h.low _,CV h.low _⟩
 ·rw[hX,Nat.pow_succ,Nat.pow_succ]
  grind
 ·rw[hd];omega
 ·rw[hd,zy _ 1,Nat.one_mul]
  omega
 ·rw[Nat.pow_succ] at hlt
  have:BB*(BB ^ j*val v)=val v*(BB ^ j*BB):=by grind
  omega
 ·
  rcases Aa (gr v (m+1)) (gr u (j+m+2)) with h4|h4
  ·exfalso
   have h5:BB ^ (j+m+2)*(gr v (m+1)+1)<=BB ^ (j+m+2)*gr u (j+m+2):=zf _ h4
   have h6:val v<BB ^ (m+1)*(gr v (m+1)+1):=by
    have:=mW hv.1 (m+1)
    have h7:=aW v (m+1)
    rw[dU (by omega)] at h7
    rw[Nat.mul_add,Nat.mul_one]
    omega
   have h8:val v*BB ^ (j+1)<BB ^ (m+1)*(gr v (m+1)+1)*BB ^ (j+1):=Nat.mul_lt_mul_of_pos_right h6 (Nat.pow_pos gV)
   have h9:BB ^ (m+1)*(gr v (m+1)+1)*BB ^ (j+1)=BB ^ (j+m+2)*(gr v (m+1)+1):=by
    rw[show j+m+2=(m+1)+(j+1) from by omega,Dj]
    grind
   omega
  ·exact h4
structure GInv (X D v1 uh u1 g r:Nat):Prop where
 eq:g*v1+r=uh*BB+u1
 hi:X<(g+1)*D
theorem a1M.start {X D v1 v2 uh u1 u2 P:Nat} (h:a1M X D v1 v2 uh u1 u2 P):GInv X D v1 uh u1 ((uh*BB+u1) / v1) ((uh*BB+u1)%v1):=by
 have hp:=h.v1p
 have e:=Nat.mod_add_div (uh*BB+u1) v1
 have hm:=wu (uh*BB+u1) (show 0<v1 by omega)
 refine⟨by rw[uw];omega,?_⟩
 obtain⟨xl,hx,hxl⟩:=h.x
 refine a0E hx hxl h.d1 ?_
 generalize (uh*BB+u1) / v1=g at *
 generalize (uh*BB+u1)%v1=r at *
 have h1:uh*BB+u1+1<=(g+1)*v1:=by rw[zy,uw g];omega
 have h2:(uh*BB+u1+1)*BB<=(g+1)*v1*BB:=ku _ h1
 have h3:=h.b4
 have h4:(g+1)*(v1*BB+v2)=(g+1)*v1*BB+(g+1)*v2:=by grind
 rw[h4]
 rw[bI] at *
 omega
theorem GInv.le {X D v1 v2 uh u1 u2 P g r:Nat} (h:a1M X D v1 v2 uh u1 u2 P) (k:GInv X D v1 uh u1 g r):g<=2*BB:=by
 rcases Aa (2*BB) g with h1|h1
 ·exfalso
  have e:=k.eq
  have h2:(2*BB+1)*v1<=g*v1:=ku _ h1
  have h3:uh*BB<=v1*BB:=ku _ h.uv
  have h4:=h.b3
  have h5:=h.v1p
  rw[bI] at *
  omega
 ·exact h1
theorem GInv.step {X D v1 v2 uh u1 u2 P g r:Nat} (h:a1M X D v1 v2 uh u1 u2 P) (k:GInv X D v1 uh u1 g r) (hc:BB<=g\/r*BB+u2<g*v2):1<=g/\GInv X D v1 uh u1 (g-1) (r+v1):=by
 have hg:1<=g:=by
  rcases hc with hc|hc
  ·rw[bI] at hc;omega
  ·rcases yj g with e|e
   ·subst e;omega
   ·exact e
 obtain⟨g',rfl⟩:∃ g',g=g'+1:=⟨g-1,by omega⟩
 refine⟨hg,?_,?_⟩
 ·have:=k.eq
  rw[zy,Nat.one_mul] at this
  rw[Nat.add_sub_cancel]
  omega
 ·rw[Nat.add_sub_cancel]
  rcases hc with hc|hc
  ·exact ni h.xb (ku _ hc)
  ·obtain⟨xl,hx,hxl⟩:=h.x
   refine a0E hx hxl h.d1 ?_
   have e:=k.eq
   have e2:(uh*BB+u1)*BB=((g'+1)*v1+r)*BB:=by rw[e]
   rw[e2]
   have:(g'+1)*(v1*BB+v2)=(g'+1)*v1*BB+(g'+1)*v2:=by grind
   rw[this,zy]
   omega
theorem GInv.done {X D v1 v2 uh u1 u2 P g r:Nat} (h:a1M X D v1 v2 uh u1 u2 P) (k:GInv X D v1 uh u1 g r) (hg:g<BB) (hr:g*v2<=r*BB+u2):a3m X D g:=by
 refine⟨k.hi,?_⟩
 obtain⟨xl,hx,hxl⟩:=h.x
 have hp:=h.v1p
 refine a7F (T:=(uh*BB+u1)*BB+u2) (by omega) h.d2 ?_ ?_
 ·have:1*BB<=v1*BB:=ku _ hp
  omega
 ·have e:=k.eq
  have e2:(uh*BB+u1)*BB=(g*v1+r)*BB:=by rw[e]
  rw[e2]
  have:g*(v1*BB+v2)=g*v1*BB+g*v2:=by grind
  rw[this,zy]
  omega
theorem GInv.brk {X D v1 v2 uh u1 u2 P g r:Nat} (h:a1M X D v1 v2 uh u1 u2 P) (k:GInv X D v1 uh u1 g r) (hr:BB<=r):g<BB/\g*v2<=r*BB+u2:=by
 have e:=k.eq
 have h3:uh*BB<=v1*BB:=ku _ h.uv
 have h4:=h.b3
 have hg:g<BB:=by
  rcases Aa g BB with h1|h1
  ·exact h1
  ·exfalso
   have h2:BB*v1<=g*v1:=ku _ h1
   rw[uw BB v1] at h2
   rw[bI] at *
   omega
 refine⟨hg,?_⟩
 have h5:g*v2<=BB*BB:=vw (by omega) (by have:=h.b2;rw[bI];omega)
 have h6:BB*BB<=r*BB:=ku _ hr
 omega
theorem KU {o:List Nat} {k d X:Nat} (hl:k<o.length) (hz:∀ m,k+1<=m->gr o m=0):val (o.set k d)=val (o.take k)+BB ^ k*d:=by
 have h1:=ZO (l:=o) (k:=k) (v:=d) hl
 have h2:val o=val (o.take k)+BB ^ k*gr o k:=by
  rw[<-aW];exact MX hz
 omega
theorem a2n {S n L j g bo ca:Nat} {u q v o:List Nat} (h:jG S (val v) n L u q (j+1)) (hv:Low v) (hn:v.length=n) (hj:j+n<L) (hG:a3m (val u) (BB ^ j*val v) g) (hg:g<BB)
  (hS:wB u v o L g j n bo ca) (hd:bo+ca<=gr u (j+n)) :
  gr u (j+n)=bo+ca/\jG S (val v) n L (o.set (j+n) 0) (q.set j g) j:=by
 have e1:=hS.vl
 rw[dU (show v.length<=n by omega)] at e1
 have e2:=h.top hv hn
 have e3:=mW hS.low (j+n)
 have e4:=hG.hi
 have e5:BB ^ j*val v<BB ^ (j+n):=by
  rw[Dj];exact Nat.mul_lt_mul_of_pos_left (xE hv hn) (Nat.pow_pos gV)
 obtain⟨d,hdd⟩:∃ d,gr u (j+n)=bo+ca+d:=⟨gr u (j+n)-(bo+ca),by omega⟩
 have e6:BB ^ j*(g*val v)=g*(BB ^ j*val v):=by grind
 rw[e6] at e1
 have e7:(g+1)*(BB ^ j*val v)=g*(BB ^ j*val v)+BB ^ j*val v:=by rw[zy,Nat.one_mul]
 rw[e7] at e4
 have e8:BB ^ (j+n)*(bo+ca+d)=BB ^ (j+n)*(bo+ca)+BB ^ (j+n)*d:=Nat.mul_add _ _ _
 rw[hdd,e8] at e2
 have hd0:d=0:=by
  rcases yj d with e|e
  ·exact e
  ·exfalso
   have:BB ^ (j+n)*1<=BB ^ (j+n)*d:=zf _ e
   omega
 subst hd0
 refine⟨by omega,?_⟩
 have hol:j+n<o.length:=by rw[hS.len];exact hj
 have hz:∀ m,j+n+1<=m->gr o m=0:=fun m hm=>by
  rw[hS.same m (by omega)];exact rX (h.bound hv hn) hm
 have e9:=KU (X:=0) (d:=0) hol hz
 have hjq:j<q.length:=by have:=h.lq;omega
 have e10:=ZO (l:=q) (k:=j) (v:=g) hjq
 rw[h.zero j (by omega)] at e10
 have e11:=h.eq
 refine⟨by simp[hS.len],low_set hS.low (by omega),by simpa using h.lq,low_set h.b4y (by rw[bI] at hg;exact hg),?_,?_,?_⟩
 ·intro m hm
  rw[yP hjq,jk (by omega)]
  exact h.zero m (by omega)
 ·rw[e9]
  have e12:val (q.set j g)=val q+BB ^ j*g:=by omega
  rw[e12]
  have e13:val v*(val q+BB ^ j*g)=val v*val q+g*(BB ^ j*val v):=by grind
  rw[e13]
  omega
 ·rw[e9,uw (val v)]
  omega
theorem PN {S n L j g bo ca c:Nat} {u q v o o2:List Nat} (h:jG S (val v) n L u q (j+1)) (hv:Low v) (hn:v.length=n) (hj:j+n<L) (hG:a3m (val u) (BB ^ j*val v) g) (hg:g<BB)
  (hS:wB u v o L g j n bo ca) (hd:gr u (j+n)<bo+ca) :
  bo+ca=gr u (j+n)+1/\1<=g/\(xY (o.set (j+n) 999999999) v o2 L j n c->c=1/\gr o2 (j+n)=999999999/\jG S (val v) n L (o2.set (j+n) 0) (q.set j (g-1)) j):=by
 have e1:=hS.vl
 rw[dU (show v.length<=n by omega)] at e1
 have e2:=h.top hv hn
 have e3:=mW hS.low (j+n)
 have e4:=hG.lo
 have e5:BB ^ j*val v<BB ^ (j+n):=by
  rw[Dj];exact Nat.mul_lt_mul_of_pos_left (xE hv hn) (Nat.pow_pos gV)
 obtain⟨d,hdd⟩:∃ d,bo+ca=gr u (j+n)+1+d:=⟨bo+ca-gr u (j+n)-1,by omega⟩
 have e6:BB ^ j*(g*val v)=g*(BB ^ j*val v):=by grind
 rw[e6] at e1
 have e8:BB ^ (j+n)*(gr u (j+n)+1+d)=BB ^ (j+n)*gr u (j+n)+BB ^ (j+n)+BB ^ (j+n)*d:=by rw[Nat.mul_add,Nat.mul_add,Nat.mul_one]
 rw[hdd,e8] at e1
 have hd0:d=0:=by
  rcases yj d with e|e
  ·exact e
  ·exfalso
   have:BB ^ (j+n)*1<=BB ^ (j+n)*d:=zf _ e
   omega
 subst hd0
 have hg1:1<=g:=by
  rcases yj g with e|e
  ·subst e;simp at e1;omega
  ·exact e
 refine⟨by omega,hg1,fun hA=>?_⟩
 have hol:j+n<o.length:=by rw[hS.len];exact hj
 have ho2:j+n<o2.length:=by rw[hA.len];exact hj
 have a1:=hA.vl
 rw[dU (show v.length<=n by omega),a1B (ak _)] at a1
 have a3:=mW hA.low (j+n)
 have hc:c=0\/c=1:=by have:=hA.car;omega
 have hc1:c=1:=by
  rcases hc with rfl|rfl
  ·exfalso;simp at e1 a1;omega
  ·rfl
 subst hc1
 have g2:gr o2 (j+n)=999999999:=by
  rw[hA.same _ (ak _),yP hol,jq rfl]
 refine⟨rfl,g2,?_⟩
 have hz:∀ m,j+n+1<=m->gr o2 m=0:=fun m hm=>by
  rw[hA.same m (by omega),yP hol,jk (by omega),hS.same m (by omega)]
  exact rX (h.bound hv hn) hm
 have e9:=KU (X:=0) (d:=0) ho2 hz
 have hjq:j<q.length:=by have:=h.lq;omega
 have e10:=ZO (l:=q) (k:=j) (v:=g-1) hjq
 rw[h.zero j (by omega)] at e10
 have e11:=h.eq
 obtain⟨g',rfl⟩:∃ g',g=g'+1:=⟨g-1,by omega⟩
 rw[Nat.add_sub_cancel] at *
 have e7:(g'+1)*(BB ^ j*val v)=g'*(BB ^ j*val v)+BB ^ j*val v:=by rw[zy,Nat.one_mul]
 rw[e7] at e1 e4
 refine⟨by simp[hA.len],low_set hA.low (by omega),by simpa using h.lq,low_set h.b4y (by rw[bI] at hg;omega),?_,?_,?_⟩
 ·intro m hm
  rw[yP hjq,jk (by omega)]
  exact h.zero m (by omega)
 ·rw[e9]
  have e12:val (q.set j g')=val q+BB ^ j*g':=by omega
  rw[e12]
  have e13:val v*(val q+BB ^ j*g')=val v*val q+g'*(BB ^ j*val v):=by grind
  rw[e13]
  simp only[Nat.mul_one,Nat.mul_zero,Nat.add_zero] at *
  omega
 ·rw[e9,uw (val v)]
  simp only[Nat.mul_one,Nat.mul_zero,Nat.add_zero] at *
  omega
theorem jG.done {S n L:Nat} {u q v:List Nat} (h:jG S (val v) n L u q 0):val q=S / val v/\val u=S%val v:=by
 have h1:=h.lt
 have h2:=h.eq
 simp at h1
 have hp:0<val v:=by omega
 have h3:S=val u+val v*val q:=h2.symm
 constructor
 ·rw[h3,Nat.add_mul_div_left _ _ hp,Dv h1];omega
 ·rw[h3,Nat.add_mul_mod_self_left,Cj h1]
set_option maxRecDepth 1000000
set_option maxHeartbeats 4000000
set_option linter.unusedSimpArgs false
def oK:Code->Option Code
 | .loop c=>some c
 | .seq a b=>match oK a with
  | some c=>some c
  | none=>oK b
 | .block _ c=>oK c
 | .scope c=>oK c
 | .cond _ a b=>match oK a with
  | some c=>some c
  | none=>oK b
 | _=>none
noncomputable def a8D:Code:=((Tryz.f277.body.bind oK).getD .skip)
theorem QF {n d v:Nat} (hd:1<=d) (hn:n<=999999999999999999) (hv:(n:Int) / d=v) (hw:IntKind.u64.wrap (v:Int)=v) (w:World):Sem.run Tryz.prog (binOp .quo 147 (.int .u64 (n:Nat)) (.int .u64 (d:Nat))) w=.ok (.int .u64 (v:Nat)) w:=by
 have hdz:((d:Int)==0)=false:=by simp;omega
 have hdn:¬ d=0:=by omega
 simp[go_sem, *]
theorem FP {n d v:Nat} (hd:1<=d) (hn:n<=999999999999999999) (hv:(n:Int)%d=v) (hw:IntKind.u64.wrap (v:Int)=v) (w:World):Sem.run Tryz.prog (binOp .rem 147 (.int .u64 (n:Nat)) (.int .u64 (d:Nat))) w=.ok (.int .u64 (v:Nat)) w:=by
 rw[<-Bg (by omega)] at hv
 have hdz:((d:Int)==0)=false:=by simp;omega
 have hdn:¬ d=0:=by omega
 simp[go_sem, *]
theorem wrap_u64 {k:Nat} (h:k<=18446744073709551615):IntKind.u64.wrap (k:Int)=k:=by simp[IntKind.wrap,IntKind.bits,IntKind.signed];omega
structure jR (base gu gv gq L n M cu cv:Nat) (u V qq:List Nat) (w0 w:World):Prop where
 u:w.ownsRow base 148 1 (.slice (some ⟨gu,0,none⟩) L cu) L (cells32 u)
 v:w.ownsRow base 148 1 (.slice (some ⟨gv,0,none⟩) n cv) n (cells32 V)
 q:w.ownsRow base 148 1 (.slice (some ⟨gq,0,none⟩) M M) M (cells32 qq)
 b:Below base w0 w
theorem jR.drew {base gu gv gq L n M cu cv:Nat} {u V qq:List Nat} {w0 w:World} (h:jR base gu gv gq L n M cu cv u V qq w0 w):jR base gu gv gq L n M cu cv u V qq w0 w.drew :=
 ⟨jH h.u (bg _ _).drew,jH h.v (bg _ _).drew,jH h.q (bg _ _).drew,h.b.drew⟩
theorem jR.drewN {base gu gv gq L n M cu cv:Nat} {u V qq:List Nat} {w0 w:World} (h:jR base gu gv gq L n M cu cv u V qq w0 w) (m:Nat):jR base gu gv gq L n M cu cv u V qq w0 (w.drewN m):=by
 induction m with
 | zero=>exact h
 | succ m ih=>exact ih.drew
theorem jR.uc {base gu gv gq L n M cu cv:Nat} {u V qq:List Nat} {w0 w:World} (h:jR base gu gv gq L n M cu cv u V qq w0 w) {k x:Nat} (hk:k<L) (hl:u.length=L) (hx:gr u k=x):w.cell? ⟨gu,k,none⟩=some (.int .u32 (x:Nat)):=by
 subst hx;rw[h.u.cellAt _ (by omega)];exact eF (by omega)
theorem jR.vc {base gu gv gq L n M cu cv:Nat} {u V qq:List Nat} {w0 w:World} (h:jR base gu gv gq L n M cu cv u V qq w0 w) {k x:Nat} (hk:k<n) (hl:V.length=n) (hx:gr V k=x):w.cell? ⟨gv,k,none⟩=some (.int .u32 (x:Nat)):=by
 subst hx;rw[h.v.cellAt _ (by omega)];exact eF (by omega)
theorem jR.qc {base gu gv gq L n M cu cv:Nat} {u V qq:List Nat} {w0 w:World} (h:jR base gu gv gq L n M cu cv u V qq w0 w) {k:Nat} (hk:k<M) (hl:qq.length=M):w.cell? ⟨gq,k,none⟩=some (.int .u32 (gr qq k:Nat)):=by
 rw[h.q.cellAt _ (by omega)];exact eF (by omega)
theorem jR.su {base gu gv gq L n M cu cv:Nat} {u V qq:List Nat} {w0 w:World} (h:jR base gu gv gq L n M cu cv u V qq w0 w) (h1:gu≠gv) (h2:gu≠gq) (h3:base<=gu) (k x:Nat):jR base gu gv gq L n M cu cv (u.set k x) V qq w0 (w.setCell ⟨gu,k,none⟩ (.int .u32 (x:Nat))):=by
 have hst:=h.u.stored k (.int .u32 (x:Nat))
 rw[fA] at hst
 exact⟨hst.1,nR h.v (by simp[Value.ownBlock];omega) _,nR h.q (by simp[Value.ownBlock];omega) _,h.b.setCell (p:=⟨gu,k,none⟩) h3 _⟩
theorem jR.sq {base gu gv gq L n M cu cv:Nat} {u V qq:List Nat} {w0 w:World} (h:jR base gu gv gq L n M cu cv u V qq w0 w) (h1:gu≠gq) (h2:gv≠gq) (h3:base<=gq) (k x:Nat):jR base gu gv gq L n M cu cv u V (qq.set k x) w0 (w.setCell ⟨gq,k,none⟩ (.int .u32 (x:Nat))):=by
 have hst:=h.q.stored k (.int .u32 (x:Nat))
 rw[fA] at hst
 exact⟨nR h.u (by simp[Value.ownBlock];omega) _,nR h.v (by simp[Value.ownBlock];omega) _,hst.1,h.b.setCell (p:=⟨gq,k,none⟩) h3 _⟩
theorem a2o (S:Nat) (V u qq:List Nat) (gu gv gq L n M cu cv j base:Nat) (wr w0:World) (hVc:Canon V) (hVn:V.length=n) (hn2:2<=n) (hL:L<=2000000000) (hLM:M+n=L) (hcu:L<=cu)
  (hI:jG S (val V) n L u qq (j+1)) (hj:j+1<=M) (hne1:gu≠gv) (hne2:gu≠gq) (b1k:gv≠gq) (hb1:base<=gu) (hb2:base<=gq)
  (hu:wr.ownsRow base 148 1 (.slice (some ⟨gu,0,none⟩) L cu) L (cells32 u)) (hv:wr.ownsRow base 148 1 (.slice (some ⟨gv,0,none⟩) n cv) n (cells32 V)) (hq:wr.ownsRow base 148 1 (.slice (some ⟨gq,0,none⟩) M M) M (cells32 qq)) (hB:Below base w0 wr)
  (k0 k1 k5 k6 k23 k24 k25 k26 k27 k28 k29 k30 k31 k32 k33 k34 k35 k36 k37 k38 k39 k40 k41 k42 k43 k44 k45 k46 k47 k48 k49 k50 k51 k52 k53 k54 k55 k56 k57 k58 k59 k60 k61 k62 k63:Value) (Q:Exit->Act->World->Prop)
  (hQ:∀ (s11 s12 s13 s14 s15 s16 s17 s18 s19 s20 s21 s22 s64 s65 s66 s67 s68 s69 s70 s71 s72 s73 s74 s75 s76 s77 s78 s79 s80 s81 s82 s83 s84 s85 s86 s87 s88 s89 s90 s91 s92 s93 s94 s95 s96 s97 s98 s99 b4S b4T b4U b4V b4W b4X b4Y b4Z b5a b5b b5c b5d b5e b5f b5g b5h b5i b5j b5k b5l b5m b5n b5o b5p b5q b5r b5s b5t b5u b5v b5w b5x b5y b5z b5A b5B b5C b5D b5E b5F b5G b5H b5I b5J b5K b5L b5M b5N b5O b5P b5Q b5R b5S b5T b5U b5V b5W b5X b5Y b5Z b6a b6b b6c b6d b6e b6f b6g b6h b6i b6j b6k b6l b6m b6n b6o b6p b6q b6r b6s b6t b6u b6v b6w b6x b6y b6z b6A b6B b6C b6D b6E b6F b6G b6H b6I b6J b6K b6L b6M b6N b6O b6P b6Q b6R b6S b6T b6U b6V b6W b6X b6Y b6Z b7a b7b b7c b7d b7e b7f b7g b7h b7i b7j b7k b7l b7m b7n b7o b7p b7q b7r b7s b7t b7u b7v b7w b7x b7y b7z b7A b7B b7C b7D b7E b7F b7G b7H b7I b7J b7K b7L b7M b7N b7O b7P:Value) (u' qq':List Nat) (w':World),jG S (val V) n L u' qq' j->w'.ownsRow base 148 1 (.slice (some ⟨gu,0,none⟩) L cu) L (cells32 u')->w'.ownsRow base 148 1 (.slice (some ⟨gv,0,none⟩) n cv) n (cells32 V)->w'.ownsRow base 148 1 (.slice (some ⟨gq,0,none⟩) M M) M (cells32 qq')->Below base w0 w' ->
   Q .normal ⟨#[k0,k1,undef,undef,.slice (some ⟨gq,0,none⟩) M M,k5,k6,(.slice (some ⟨gu,0,none⟩) L cu),(.slice (some ⟨gv,0,none⟩) n cv),.int .i64 (n:Nat),.int .i64 ((j:Int)-1),s11,s12,s13,s14,s15,s16,s17,s18,s19,s20,s21,s22,k23,k24,k25,k26,k27,k28,k29,k30,k31,k32,k33,k34,k35,k36,k37,k38,k39,k40,k41,k42,k43,k44,k45,k46,k47,k48,k49,k50,k51,k52,k53,k54,k55,k56,k57,k58,k59,k60,k61,k62,k63,s64,s65,s66,s67,s68,s69,s70,s71,s72,s73,s74,s75,s76,s77,s78,s79,s80,s81,s82,s83,s84,s85,s86,s87,s88,s89,s90,s91,s92,s93,s94,s95,s96,s97,s98,s99,b4S,b4T,b4U,b4V,b4W,b4X,b4Y,b4Z,b5a,b5b,b5c,b5d,b5e,b5f,b5g,b5h,b5i,b5j,b5k,b5l,b5m,b5n,b5o,b5p,b5q,b5r,b5s,b5t,b5u,b5v,b5w,b5x,b5y,b5z,b5A,b5B,b5C,b5D,b5E,b5F,b5G,b5H,b5I,b5J,b5K,b5L,b5M,b5N,b5O,b5P,b5Q,b5R,b5S,b5T,b5U,b5V,b5W,b5X,b5Y,b5Z,b6a,b6b,b6c,b6d,b6e,b6f,b6g,b6h,b6i,b6j,b6k,b6l,b6m,b6n,b6o,b6p,b6q,b6r,b6s,b6t,b6u,b6v,b6w,b6x,b6y,b6z,b6A,b6B,b6C,b6D,b6E,b6F,b6G,b6H,b6I,b6J,b6K,b6L,b6M,b6N,b6O,b6P,b6Q,b6R,b6S,b6T,b6U,b6V,b6W,b6X,b6Y,b6Z,b7a,b7b,b7c,b7d,b7e,b7f,b7g,b7h,b7i,b7j,b7k,b7l,b7m,b7n,b7o,b7p,b7q,b7r,b7s,b7t,b7u,b7v,b7w,b7x,b7y,b7z,b7A,b7B,b7C,b7D,b7E,b7F,b7G,b7H,b7I,b7J,b7K,b7L,b7M,b7N,b7O,b7P,undef,undef,undef,undef,undef,undef,undef,undef,undef,undef,undef,undef],[]⟩ w')
  (s11 s12 s13 s14 s15 s16 s17 s18 s19 s20 s21 s22 s64 s65 s66 s67 s68 s69 s70 s71 s72 s73 s74 s75 s76 s77 s78 s79 s80 s81 s82 s83 s84 s85 s86 s87 s88 s89 s90 s91 s92 s93 s94 s95 s96 s97 s98 s99 b4S b4T b4U b4V b4W b4X b4Y b4Z b5a b5b b5c b5d b5e b5f b5g b5h b5i b5j b5k b5l b5m b5n b5o b5p b5q b5r b5s b5t b5u b5v b5w b5x b5y b5z b5A b5B b5C b5D b5E b5F b5G b5H b5I b5J b5K b5L b5M b5N b5O b5P b5Q b5R b5S b5T b5U b5V b5W b5X b5Y b5Z b6a b6b b6c b6d b6e b6f b6g b6h b6i b6j b6k b6l b6m b6n b6o b6p b6q b6r b6s b6t b6u b6v b6w b6x b6y b6z b6A b6B b6C b6D b6E b6F b6G b6H b6I b6J b6K b6L b6M b6N b6O b6P b6Q b6R b6S b6T b6U b6V b6W b6X b6Y b6Z b7a b7b b7c b7d b7e b7f b7g b7h b7i b7j b7k b7l b7m b7n b7o b7p b7q b7r b7s b7t b7u b7v b7w b7x b7y b7z b7A b7B b7C b7D b7E b7F b7G b7H b7I b7J b7K b7L b7M b7N b7O b7P:Value) :
  a8D.wp Tryz.prog Q ⟨#[k0,k1,undef,undef,.slice (some ⟨gq,0,none⟩) M M,k5,k6,(.slice (some ⟨gu,0,none⟩) L cu),(.slice (some ⟨gv,0,none⟩) n cv),.int .i64 (n:Nat),.int .i64 (j:Int),s11,s12,s13,s14,s15,s16,s17,s18,s19,s20,s21,s22,k23,k24,k25,k26,k27,k28,k29,k30,k31,k32,k33,k34,k35,k36,k37,k38,k39,k40,k41,k42,k43,k44,k45,k46,k47,k48,k49,k50,k51,k52,k53,k54,k55,k56,k57,k58,k59,k60,k61,k62,k63,s64,s65,s66,s67,s68,s69,s70,s71,s72,s73,s74,s75,s76,s77,s78,s79,s80,s81,s82,s83,s84,s85,s86,s87,s88,s89,s90,s91,s92,s93,s94,s95,s96,s97,s98,s99,b4S,b4T,b4U,b4V,b4W,b4X,b4Y,b4Z,b5a,b5b,b5c,b5d,b5e,b5f,b5g,b5h,b5i,b5j,b5k,b5l,b5m,b5n,b5o,b5p,b5q,b5r,b5s,b5t,b5u,b5v,b5w,b5x,b5y,b5z,b5A,b5B,b5C,b5D,b5E,b5F,b5G,b5H,b5I,b5J,b5K,b5L,b5M,b5N,b5O,b5P,b5Q,b5R,b5S,b5T,b5U,b5V,b5W,b5X,b5Y,b5Z,b6a,b6b,b6c,b6d,b6e,b6f,b6g,b6h,b6i,b6j,b6k,b6l,b6m,b6n,b6o,b6p,b6q,b6r,b6s,b6t,b6u,b6v,b6w,b6x,b6y,b6z,b6A,b6B,b6C,b6D,b6E,b6F,b6G,b6H,b6I,b6J,b6K,b6L,b6M,b6N,b6O,b6P,b6Q,b6R,b6S,b6T,b6U,b6V,b6W,b6X,b6Y,b6Z,b7a,b7b,b7c,b7d,b7e,b7f,b7g,b7h,b7i,b7j,b7k,b7l,b7m,b7n,b7o,b7p,b7q,b7r,b7s,b7t,b7u,b7v,b7w,b7x,b7y,b7z,b7A,b7B,b7C,b7D,b7E,b7F,b7G,b7H,b7I,b7J,b7K,b7L,b7M,b7N,b7O,b7P,undef,undef,undef,undef,undef,undef,undef,undef,undef,undef,undef,undef],[]⟩ wr:=by
 conv=>arg 2;whnf
 have hG:=bn (hI.c0D hVc hVn hn2)
 have a8F:=hI.low
 have b4w:=hI.lu
 have bh:gr u (j+n)<=999999999:=fU a8F _
 have b1:gr u (j+n-1)<=999999999:=fU a8F _
 have b2:gr u (j+n-2)<=999999999:=fU a8F _
 have c1:gr V (n-1)<=999999999:=fU hVc.1 _
 have c2:gr V (n-2)<=999999999:=fU hVc.1 _
 have c0:1<=gr V (n-1):=hG.out.v1p
 have hRu:Rd wr (.slice (some ⟨gu,0,none⟩) L cu) u:=by have:=Rd.bU (l:=u) (by rw[b4w];exact hu);exact this
 have l1:wr.cell? ⟨gu,j+n-1,none⟩=some (.int .u32 (gr u (j+n-1):Nat)):=by
  rw[hu.cellAt _ (by omega)];exact eF (by omega)
 have l2:wr.cell? ⟨gu,j+n-2,none⟩=some (.int .u32 (gr u (j+n-2):Nat)):=by
  rw[hu.cellAt _ (by omega)];exact eF (by omega)
 have m1:wr.cell? ⟨gv,n-1,none⟩=some (.int .u32 (gr V (n-1):Nat)):=by
  rw[hv.cellAt _ (by omega)];exact eF (by omega)
 have m2:wr.cell? ⟨gv,n-2,none⟩=some (.int .u32 (gr V (n-2):Nat)):=by
  rw[hv.cellAt _ (by omega)];exact eF (by omega)
 have hjn:((j:Int)+n).toNat=j+n:=by omega
 have hat:=fun W h=>a6M (.slice (some ⟨gu,0,none⟩) L cu) u ((j:Int)+n) W h (by omega)
 rw[hjn] at hat
 obtain⟨xh,hxh⟩:∃ xh,gr u (j+n)=xh:=⟨_,rfl⟩
 obtain⟨x1,hx1⟩:∃ x1,gr u (j+n-1)=x1:=⟨_,rfl⟩
 obtain⟨x2,hx2⟩:∃ x2,gr u (j+n-2)=x2:=⟨_,rfl⟩
 obtain⟨y1,hy1⟩:∃ y1,gr V (n-1)=y1:=⟨_,rfl⟩
 obtain⟨y2,hy2⟩:∃ y2,gr V (n-2)=y2:=⟨_,rfl⟩
 rw[hxh] at hat bh hG
 rw[hx1] at b1 l1 hG
 rw[hx2] at b2 l2 hG
 rw[hy1] at c1 c0 m1 hG
 rw[hy2] at c2 m2 hG
 have HXH:=bn (And.intro hxh (And.intro hx1 (And.intro hx2 (And.intro hy1 hy2))))
 have HR0:=bn (jR.mk hu hv hq hB)
 have HAT:=bn hat
 have HI:=bn hI
 have HVC:=bn hVc
 have HVN:=bn hVn
 have HQ:=bn hQ
 have HL:=bn a8F
 have HLN:=bn b4w
 clear hxh hx1 hx2 hy1 hy2 hat hI hVc hVn hQ a8F b4w hjn
 have t1:((j:Int)+n-1).toNat=j+n-1:=by omega
 have t2:((n:Int)-1).toNat=n-1:=by omega
 have rd1:=hRu.drew
 have HR1:=bn hRu
 have HR2:=bn rd1
 clear hRu rd1
 obtain⟨T,hT0⟩:∃ T,xh*1000000000+x1=T:=⟨_,rfl⟩
 have hT:(xh:Int)*1000000000+x1=(T:Nat):=by omega
 have hT1:T<=999999999999999999:=by omega
 have hq0:=hG.out.start
 have hTB:xh*BB+x1=T:=by rw[bI];exact hT0
 rw[hTB] at hq0
 have hgb:T / y1<=2000000000:=by have:=hq0.le hG.out;rw[bI] at this;omega
 have hrb:T%y1<=999999998:=by have:=wu T (show 0<y1 by omega);omega
 obtain⟨g0,hg0⟩:∃ g0,T / y1=g0:=⟨_,rfl⟩
 obtain⟨r0,hr0⟩:∃ r0,T%y1=r0:=⟨_,rfl⟩
 have i1:(T:Int) / y1=g0:=by rw[<-hg0];simp
 have i2:(T:Int)%y1=r0:=by rw[<-hr0];simp
 rw[hg0] at hgb hq0
 rw[hr0] at hrb hq0
 have w1:IntKind.u64.wrap (g0:Int)=g0:=by exact wrap_u64 (by omega)
 have w2:IntKind.u64.wrap (r0:Int)=r0:=by exact wrap_u64 (by omega)
 have HG0:=bn hq0
 have HT0:=bn hT0
 have HTB:=bn hTB
 clear hq0 hT0 hTB hg0 hr0
 go_wp2_with fail
 go_quiet ((go_at_call 279;exact Calls.quiet_of_same ((HAT.out _ (by first|exact HR1.out|exact HR2.out)).mono fun e w' h=>⟨h.1,h.2.symm⟩)))
 go_wp2_with fail
 go_quiet (fail)
 go_upto_block 2 with(fail)
 go_cut [12] from 100 to 135 (fun g wx=>∃ gg:Nat,g=.int .u64 (gg:Nat)/\gg<=999999999/\Hid (a3m (val u) (BB ^ j*val V) gg)/\Hid (jR base gu gv gq L n M cu cv u V qq w0 wx))
 case first =>
  go_wp2_with fail
  go_loopg [12,13,100,101,102,103,104,105,106,107,108,109,110,111,112,113,114,115,116,117,118,119,120,121,122,123,124,125,126,127,128,129,130,131,132,133,134,135] g0 (fun k g r _ _ _ _ _ _ _ _ _ _ _ _ _ _ _ _ _ _ _ _ _ _ _ _ _ _ _ _ _ _ _ _ _ _ _ _ wr=>g=.int .u64 (k:Nat)/\k<=2000000000/\∃ rr:Nat,r=.int .u64 (rr:Nat)/\rr<=999999999/\Hid (GInv (val u) (BB ^ j*val V) y1 xh x1 k rr)/\Hid (jR base gu gv gq L n M cu cv u V qq w0 wr))
  case atStart=>exact⟨rfl,hgb,r0,zl (Value.int IntKind.u64) i2,by omega,HG0,bn ((HR0.out.drewN _).drewN _)⟩
  case round =>
   obtain⟨rfl,hk,rr,rfl,hrr,HG,HR⟩:=hrel
   clear l1 l2 m1 m2
   have HXB:=HXH.out
   have t3:((j:Int)+n-2).toNat=j+n-2:=by omega
   have t4:((n:Int)-2).toNat=n-2:=by omega
   have l2:=HR.out.uc (k:=j+n-2) (by omega) HLN.out HXB.2.2.1
   have m1:=HR.out.vc (k:=n-1) (by omega) HVN.out HXB.2.2.2.1
   have m2:=HR.out.vc (k:=n-2) (by omega) HVN.out HXB.2.2.2.2
   clear HXB
   by_cases hb:1000000000<=gk
   ·have hd:decide ((1000000000:Int)<=(gk:Int))=true:=by simp;omega
    have hg1:1<=gk:=by omega
    have HBB:=bn hb
    clear hb
    by_cases hb2:1000000000<=rr+y1
    ·have hd2:decide ((1000000000:Int)<=rr+y1)=true:=by simp;omega
     have HB2:=bn hb2
     clear hb2
     go_wp2_with fail
     go_quiet (fail)
     go_wp2_with fail
     go_meet
     obtain⟨s1,s2⟩:=GInv.step hG.out HG.out (.inl (by rw[bI];exact HBB.out))
     obtain⟨s3,s4⟩:=GInv.brk hG.out s2 (by rw[bI];exact HB2.out)
     rw[bI] at s3
     exact⟨gk-1,by rw[Int.ofNat_sub hg1];rfl,by omega,bn (GInv.done hG.out s2 (by rw[bI];exact s3) s4),bn (HR.out.drewN _)⟩
    ·have hd2:decide ((1000000000:Int)<=rr+y1)=false:=by simp;omega
     have hb3:rr+y1<=999999999:=by omega
     have HB2:=bn hb2
     clear hb2
     go_wp2_with fail
     go_quiet (fail)
     go_wp2_with fail
     go_roundg (gk-1)
     case measure=>omega
     case rel =>
      obtain⟨s1,s2⟩:=GInv.step hG.out HG.out (.inl (by rw[bI];exact HBB.out))
      exact⟨by rw[Int.ofNat_sub hg1];rfl,by omega,rr+y1,by simp,hb3,bn s2,bn (HR.out.drewN _)⟩
   ·have hd:decide ((1000000000:Int)<=(gk:Int))=false:=by simp;omega
    have hb':gk<=999999999:=by omega
    clear hb
    have b4c:gk*y2<=999999999*999999999:=vw hb' c2
    obtain⟨gp,BH⟩:∃ gp,gk*y2=gp:=⟨_,rfl⟩
    have hgp:(gk:Int)*y2=(gp:Nat):=by rw[<-BH];simp
    rw[BH] at b4c
    by_cases hc:rr*1000000000+x2<gp
    ·have hdc:decide ((rr:Int)*1000000000+x2<gp)=true:=by simp;omega
     have hg1:1<=gk:=by
      rcases yj gk with h|h
      ·subst h;simp at BH;omega
      ·exact h
     have HBB:=bn (And.intro hc BH)
     clear hc BH
     by_cases hb2:1000000000<=rr+y1
     ·have hd2:decide ((1000000000:Int)<=rr+y1)=true:=by simp;omega
      have HB2:=bn hb2
      clear hb2
      go_wp2_with fail
      go_quiet (fail)
      go_wp2_with fail
      go_meet
      obtain⟨s1,s2⟩:=GInv.step hG.out HG.out (.inr (by rw[bI,HBB.out.2];exact HBB.out.1))
      obtain⟨s3,s4⟩:=GInv.brk hG.out s2 (by rw[bI];exact HB2.out)
      rw[bI] at s3
      exact⟨gk-1,by rw[Int.ofNat_sub hg1];rfl,by omega,bn (GInv.done hG.out s2 (by rw[bI];exact s3) s4),bn (HR.out.drewN _)⟩
     ·have hd2:decide ((1000000000:Int)<=rr+y1)=false:=by simp;omega
      have hb3:rr+y1<=999999999:=by omega
      have HB2:=bn hb2
      clear hb2
      go_wp2_with fail
      go_quiet (fail)
      go_wp2_with fail
      go_roundg (gk-1)
      case measure=>omega
      case rel =>
       obtain⟨s1,s2⟩:=GInv.step hG.out HG.out (.inr (by rw[bI,HBB.out.2];exact HBB.out.1))
       exact⟨by rw[Int.ofNat_sub hg1];rfl,by omega,rr+y1,by simp,hb3,bn s2,bn (HR.out.drewN _)⟩
    ·have hdc:decide ((rr:Int)*1000000000+x2<gp)=false:=by simp;omega
     have HBB:=bn (And.intro hc BH)
     clear hc BH
     go_wp2_with fail
     go_quiet (fail)
     go_wp2_with fail
     go_meet
     exact⟨gk,rfl,hb',bn (GInv.done hG.out HG.out (by rw[bI];omega) (by rw[bI,HBB.out.2];exact Nat.le_of_not_lt HBB.out.1)),bn (HR.out.drewN _)⟩
 case rest =>
  obtain⟨g,rfl,hg,HGU,HR⟩:=hcut
  clear l1 l2 m1 m2 HAT HR1 HR2 HG0 hgb hrb i1 i2 w1 w2 hT hT1 HT0 HTB HR0
  go_wp2_with fail
  go_loopw [14,15,16,17,18,137,138,139,140,141,142,143,144,145,146,147,148,149,150,151,152,153,154,155,156,157,158,159,160,161,162,163,164,165,166,167,168,169,170,171,172,173,174,175] (fun b c _ _ _ i _ _ _ _ _ _ _ _ _ _ _ _ _ _ _ _ _ _ _ _ _ _ _ _ _ _ _ _ _ _ _ _ _ _ _ _ _ _ wr=>∃ (k bo ca:Nat) (o:List Nat),i=.int .i64 (k:Nat)/\k<=n/\b=.int .i64 (bo:Nat)/\c=.int .u64 (ca:Nat)/\Hid (wB u V o L g j k bo ca)/\Hid (jR base gu gv gq L n M cu cv o V qq w0 wr)) (fun b c _ _ _ i _ _ _ _ _ _ _ _ _ _ _ _ _ _ _ _ _ _ _ _ _ _ _ _ _ _ _ _ _ _ _ _ _ _ _ _ _ _ wr=>n-(intOf i).toNat)
  case atStart=>exact⟨0,0,0,u,rfl,by omega,rfl,rfl,bn (wB.start HLN.out HL.out),HR⟩
  case round =>
   obtain⟨k,bo,ca,o,rfl,hk,rfl,rfl,HS,HR⟩:=hrel
   have hbo:=HS.out.bor
   have hca:ca<=999999999:=by have:=HS.out.car;omega
   have hol:=HS.out.len
   by_cases hkn:k<n
   ·have hv1:gr V k<=999999999:=fU HVC.out.1 _
    have hv2:gr o (j+k)<=999999999:=fU HS.out.low _
    obtain⟨y,hy⟩:∃ y,gr V k=y:=⟨_,rfl⟩
    obtain⟨x,hx⟩:∃ x,gr o (j+k)=x:=⟨_,rfl⟩
    rw[hy] at hv1
    rw[hx] at hv2
    have cl1:=HR.out.vc hkn HVN.out hy
    have cl2:=HR.out.uc (k:=j+k) (by omega) hol hx
    have cf:=HR.out.u.frozenAt (j+k)
    have hti:((k:Int)+j).toNat=j+k:=by omega
    have b4c:g*y<=999999999*999999999:=vw hg hv1
    obtain⟨gp,BH⟩:∃ gp,g*y=gp:=⟨_,rfl⟩
    have hgp:(g:Int)*y=(gp:Nat):=by rw[<-BH];simp
    rw[BH] at b4c
    obtain⟨r,hr⟩:∃ r,(gp+ca)%1000000000=r:=⟨_,rfl⟩
    obtain⟨t,ht⟩:∃ t,(gp+ca) / 1000000000=t:=⟨_,rfl⟩
    have hr2:((gp:Int)+ca)%1000000000=r:=by omega
    have ht2:((gp:Int)+ca) / 1000000000=t:=by omega
    have hr3:r<=999999999:=by omega
    have ht3:t<=999999999:=by omega
    by_cases hc:x<bo+r
    ·obtain⟨d,hd0⟩:∃ d,x+1000000000-bo-r=d:=⟨_,rfl⟩
     have hd:(x:Int)-bo-r+1000000000=d:=by omega
     have hd1:d<=999999999:=by omega
     have hdc:decide ((x:Int)-bo-r<0)=true:=by simp;omega
     have HN:=bn (HS.out.step (d:=d) (bo':=1) (by omega) (by rw[hy];omega) (by omega) (by omega) (by omega) (by rw[hx,hy,BH,hr];omega))
     rw[hy,BH,ht] at HN
     have HC:=bn hc
     clear hc hd0 hr ht BH hx hy hol
     go_wp2_with fail
     go_roundw
     case rel=>exact⟨k+1,1,t,_,by go_num,by omega,rfl,zl (Value.int IntKind.u64) ht2,HN,bn (HR.out.su hne1 hne2 hb1 _ _)⟩
     case measure=>simp[intOf];omega
    ·obtain⟨d,hd0⟩:∃ d,x-bo-r=d:=⟨_,rfl⟩
     have hd:(x:Int)-bo-r=d:=by omega
     have hd1:d<=999999999:=by omega
     have HN:=bn (HS.out.step (d:=d) (bo':=0) (by omega) (by rw[hy];omega) (by omega) (by omega) (by omega) (by rw[hx,hy,BH,hr];omega))
     rw[hy,BH,ht] at HN
     clear hc hd0 hr ht BH hx hy hol
     go_wp2_with fail
     go_roundw
     case rel=>exact⟨k+1,0,t,_,by go_num,by omega,rfl,zl (Value.int IntKind.u64) ht2,HN,bn (HR.out.su hne1 hne2 hb1 _ _)⟩
     case measure=>simp[intOf];omega
   ·obtain rfl:k=n:=by omega
    clear hkn
    have hsx:gr o (j+k)=xh:=by rw[HS.out.same _ (by omega)];exact HXH.out.1
    have cl2:=HR.out.uc (k:=j+k) (by omega) hol hsx
    have cf:=HR.out.u.frozenAt (j+k)
    have hql:qq.length=M:=by have:=HI.out.lq;omega
    have cq:=HR.out.qc (k:=j) (by omega) hql
    have cqf:=HR.out.q.frozenAt j
    have hti:((j:Int)+k).toNat=j+k:=by omega
    by_cases hc:bo+ca<=xh
    ·have hN:=a2n HI.out HVC.out.1 HVN.out (by omega) HGU.out (by rw[bI];omega) HS.out (by rw[HXH.out.1];exact hc)
     rw[HXH.out.1] at hN
     have hz:(xh:Int)-bo-ca=0:=by omega
     have HN:=bn hN
     have HC:=bn hc
     have HSX:=bn hsx
     have HQL:=bn hql
     have HOL:=bn hol
     clear hc hN hsx hql hol
     go_wp2_with fail
     have hlr:=(HR.out.su hne1 hne2 hb1 (j+k) 0).sq hne2 b1k hb2 j g
     exact HQ.out _ _ _ _ _ _ _ _ _ _ _ _ _ _ _ _ _ _ _ _ _ _ _ _ _ _ _ _ _ _ _ _ _ _ _ _ _ _ _ _ _ _ _ _ _ _ _ _ _ _ _ _ _ _ _ _ _ _ _ _ _ _ _ _ _ _ _ _ _ _ _ _ _ _ _ _ _ _ _ _ _ _ _ _ _ _ _ _ _ _ _ _ _ _ _ _ _ _ _ _ _ _ _ _ _ _ _ _ _ _ _ _ _ _ _ _ _ _ _ _ _ _ _ _ _ _ _ _ _ _ _ _ _ _ _ _ _ _ _ _ _ _ _ _ _ _ _ _ _ _ _ _ _ _ _ _ _ _ _ _ _ _ _ _ _ _ _ _ _ _ _ _ _ _ _ _ _ _ _ _ _ _ _ _ _ _ _ _ _ _ _ _ _ _ _ _ _ _ _ _ _ _  _ _ _ HN.out.2 hlr.u hlr.v hlr.q hlr.b
    ·have hN:=PN (c:=1) (o2:=[]) HI.out HVC.out.1 HVN.out (by omega) HGU.out (by rw[bI];omega) HS.out (by rw[HXH.out.1];omega)
     rw[HXH.out.1] at hN
     have hg1:1<=g:=hN.2.1
     have hz:(xh:Int)-bo-ca=-1:=by omega
     have HC:=bn hc
     have HSX:=bn hsx
     have HQL:=bn hql
     have HOL:=bn hol
     clear hc hN hsx hql
     go_wp2_with fail
     have hLR:=HR.out.su hne1 hne2 hb1 (j+k) 999999999
     have HST:=bn (xY.start (v:=V) (j:=j) (u:=o.set (j+k) 999999999) (L:=L) (by simpa using hol) (low_set HS.out.low (by omega)))
     clear hol cl2 cf cq cqf
     obtain⟨n,hkn⟩:∃ n,n=k:=⟨_,rfl⟩
     subst hkn
     go_loopw [20,21,22,201,202,203,204,205,206,207,208,209,210,211,212,213,214,215,216,217,218,219,220,221,222,223,224,225,226,227] (fun c _ _ i _ _ _ _ _ _ _ _ _ _ _ _ _ _ _ _ _ _ _ _ _ _ _ _ _ _ wr=>∃ (k ca:Nat) (o2:List Nat),i=.int .i64 (k:Nat)/\k<=n/\c=.int .u32 (ca:Nat)/\Hid (xY (o.set (j+n) 999999999) V o2 L j k ca)/\Hid (jR base gu gv gq L n M cu cv o2 V qq w0 wr)) (fun c _ _ i _ _ _ _ _ _ _ _ _ _ _ _ _ _ _ _ _ _ _ _ _ _ _ _ _ _ wr=>n-(intOf i).toNat)
     case atStart=>exact⟨0,0,_,rfl,by omega,rfl,HST,bn hLR⟩
     case round =>
      obtain⟨k,c,o2,rfl,hk2,rfl,HA,HR⟩:=hrel
      have c1k:=HA.out.car
      have hol:=HA.out.len
      by_cases hkn:k<n
      ·have hv1:gr V k<=999999999:=fU HVC.out.1 _
       have hv2:gr o2 (j+k)<=999999999:=fU HA.out.low _
       obtain⟨y,hy⟩:∃ y,gr V k=y:=⟨_,rfl⟩
       obtain⟨x,hx⟩:∃ x,gr o2 (j+k)=x:=⟨_,rfl⟩
       rw[hy] at hv1
       rw[hx] at hv2
       have cl1:=HR.out.vc hkn HVN.out hy
       have cl2:=HR.out.uc (k:=j+k) (by omega) hol hx
       have cf:=HR.out.u.frozenAt (j+k)
       have hti:((k:Int)+j).toNat=j+k:=by omega
       by_cases hc:1000000000<=x+y+c
       ·obtain⟨d,hd0⟩:∃ d,x+y+c-1000000000=d:=⟨_,rfl⟩
        have hd:(x:Int)+y+c-1000000000=d:=by omega
        have hd1:d<=999999999:=by omega
        have hdc:decide ((1000000000:Int)<=x+y+c)=true:=by simp;omega
        have HN:=bn (HA.out.step (d:=d) (c':=1) (by omega) (by omega) (by omega) (by rw[hx,hy];omega))
        have HC2:=bn hc
        clear hc hd0 hx hy hol
        go_wp2_with fail
        go_quiet (fail)
        go_wp2_with fail
        go_roundw
        case rel=>exact⟨k+1,1,_,by go_num,by omega,rfl,HN,bn (jR.su (HR.out.drewN _) hne1 hne2 hb1 _ _)⟩
        case measure=>simp[intOf];omega
       ·obtain⟨d,hd0⟩:∃ d,x+y+c=d:=⟨_,rfl⟩
        have hd:(x:Int)+y+c=d:=by omega
        have hd1:d<=999999999:=by omega
        have hdc:decide ((1000000000:Int)<=d)=false:=by simp;omega
        have HN:=bn (HA.out.step (d:=d) (c':=0) (by omega) (by omega) (by omega) (by rw[hx,hy];omega))
        clear hc hd0 hx hy hol
        go_wp2_with fail
        go_quiet (fail)
        go_wp2_with fail
        go_roundw
        case rel=>exact⟨k+1,0,_,by go_num,by omega,rfl,HN,bn (jR.su (HR.out.drewN _) hne1 hne2 hb1 _ _)⟩
        case measure=>simp[intOf];omega
      ·obtain rfl:k=n:=by omega
       clear hkn
       have hN:=(PN HI.out HVC.out.1 HVN.out (by omega) HGU.out (by rw[bI];omega) HS.out (by rw[HXH.out.1];have:=HC.out;omega)).2.2 HA.out
       obtain⟨rfl,e2,e3⟩:=hN
       have cl2:=HR.out.uc (k:=j+k) (by omega) hol e2
       have cf:=HR.out.u.frozenAt (j+k)
       have cq:=HR.out.qc (k:=j) (by omega) HQL.out
       have cqf:=HR.out.q.frozenAt j
       have HN:=bn e3
       have HE:=bn e2
       have c1h:=bn hol
       clear e2 e3 hol
       go_wp2_with fail
       have hlr:=(HR.out.su hne1 hne2 hb1 (j+k) 0).sq hne2 b1k hb2 j (g-1)
       rw[show ((g-1:Nat):Int)=(g:Int)-1 from Int.ofNat_sub hg1] at hlr
       exact HQ.out _ _ _ _ _ _ _ _ _ _ _ _ _ _ _ _ _ _ _ _ _ _ _ _ _ _ _ _ _ _ _ _ _ _ _ _ _ _ _ _ _ _ _ _ _ _ _ _ _ _ _ _ _ _ _ _ _ _ _ _ _ _ _ _ _ _ _ _ _ _ _ _ _ _ _ _ _ _ _ _ _ _ _ _ _ _ _ _ _ _ _ _ _ _ _ _ _ _ _ _ _ _ _ _ _ _ _ _ _ _ _ _ _ _ _ _ _ _ _ _ _ _ _ _ _ _ _ _ _ _ _ _ _ _ _ _ _ _ _ _ _ _ _ _ _ _ _ _ _ _ _ _ _ _ _ _ _ _ _ _ _ _ _ _ _ _ _ _ _ _ _ _ _ _ _ _ _ _ _ _ _ _ _ _ _ _ _ _ _ _ _ _ _ _ _ _ _ _ _ _ _ _  _ _ _ HN.out hlr.u hlr.v hlr.q hlr.b
end Go.Proofs.YtbkocjmmbkifjaaGreat
