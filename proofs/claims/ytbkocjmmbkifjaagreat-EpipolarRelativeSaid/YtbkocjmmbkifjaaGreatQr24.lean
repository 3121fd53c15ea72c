/-
  Lemmas for the theorem vrelative28_holds, part 24 of 35.
-/
import Derived.Test.YtbkocjmmbkifjaaGreatQr23
namespace Go.Proofs.YtbkocjmmbkifjaaGreat
open Go Go.RowKit
set_option linter.unusedVariables false
set_option linter.unusedSimpArgs false
theorem b2z {a:MQ} {R C K L:Nat} (h:isM a R C) (ha:szM a K) {x:LQ'} (hx:∀ q ∈ x,rsz q<=L) (hl:x.length=C):∀ q ∈ mvL a x,rsz q<=C*(K+L+1)+1:=fun q hq=>by
 obtain⟨i,hi,rfl⟩:=Dn hq;have hi2:i<R:=by rw[a1o,h.len] at hi;exact hi
 have e:(mvL a x)[i]=mv C (ent a) (lv x) i:=by rw[<-c6u h hi2];unfold lv;rw[bg,dw hi];rfl
 rw[e];exact OA (K:=K+L) (f:=fun k=>ent a i k*lv x k) C (fun k hk=>by
  have y1:rsz (ent a i k)<=K:=ha i (by rw[h.len];exact hi2) k (by rw[h.wd];exact hk);have y2:rsz (lv x k)<=L:=hx _ (by unfold lv;rw[bg,dw (by omega)];exact uq _);have y3:=fC (ent a i k) (lv x k);show rsz (ent a i k*lv x k)<=_;omega)
set_option maxRecDepth 100000
set_option maxHeartbeats 1000000
def cdI (n:Int):Prop:=-1048576<=n/\n<=1048576
abbrev c4w:Type:=Int × Int × Unit
def cdP (p:c4w):Prop:=cdI p.1/\cdI p.2.1
def m33 (K:Nat) (f:MQ):Prop:=isM f 3 3/\szM f K
theorem m33.mono {K L:Nat} {f:MQ} (h:m33 K f) (hl:K<=L):m33 L f:=⟨h.1,fun i hi j hj=>au (h.2 i hi j hj) hl⟩
theorem cdI.word {n:Int} (h:cdI n):aV n:=⟨by have:=h.1;omega,by have:=h.2;omega⟩
theorem m33.ok {K:Nat} {f:MQ} (h:m33 K f) (hK:K<=1000000):okM f/\szM f 1000000/\wdM f=3/\f.length=3:=⟨⟨by rw[h.1.len,h.1.wd];exact h.1,fun i hi j hj=>au (h.2 i hi j hj) (by omega)⟩,fun i hi j hj=>au (h.2 i hi j hj) (by omega),h.1.wd,h.1.len⟩
theorem m33.tr {K:Nat} {f:MQ} (h:m33 K f):m33 K (trM f):=by unfold trM;rw[h.1.wd,h.1.len];have e:isM (tab 3 3 (_root_.Go.Proofs.YtbkocjmmbkifjaaGreat.tr (ent f))) 3 3:=uF (by omega) (by omega) (by omega) (by omega);refine⟨e,fun i hi j hj=>?_⟩;rw[e.len] at hi;rw[e.wd] at hj;rw[eF hi hj];exact h.2 j (by rw[h.1.len];exact hj) i (by rw[h.1.wd];exact hi)
theorem a5s {α:Type} {xs ys:List α} {i:Nat} {d:α} (hi:i<xs.length) (hy:i<ys.length) (h:xs.take i=ys.take i) (h2:xs.getD i d=ys.getD i d):xs.take (i+1)=ys.take (i+1):=by rw[Ew,Ew,h];rw[bg,dw hi,bg,dw hy] at h2;rw[dw hi,dw hy];have h2:xs[i]=ys[i]:=h2;rw[h2]
abbrev LKq:LK:=.mat 39 47 tQ
def a9E (n:Nat):List Rat:=List.replicate n 0
def IV (R C:Nat):MQ:=tab R C fun _ _=>0
noncomputable def c8Y:lK:=.mk LKq [tI,tI] (fun x=>0<=(show Int from x.1)/\(show Int from x.1)<=1000/\0<=(show Int from x.2.1)/\(show Int from x.2.1)<=1000) (fun x=>IV (show Int from x.1).toNat (show Int from x.2.1).toNat)
theorem PE:aJ Tryz.prog 165 (cIQ aV (fun i=>(i:Rat))):=by
 refine aN (nil0.ad RN) ⟨[2],[],[]⟩ Tryz.func165 rfl (by decide) (fun x=>[]) (fun x hp=>?_);obtain⟨n,u⟩:=x;change Int at n;refine aP ((aV n/\True)/\True/\aH n=aH n/\True) (by kernel_rfl) ?_;have hZ:(⟨false,0,[],[]⟩:aI)=bP:=rfl;dsimp only[aB,asT,aA,aC,Ty.den,Lf.den] at *
 simp only[hZ,Int.toNat_natCast,gZ,jc,jv,Dt,Cb,aW,nameAt,bW,gW,jG,rowAt,qp,jr];exact hp
theorem b7o:NOk Tryz.prog 158 c8Y:=by
 refine qY (nil0.ad PE) ⟨[],[],[(9,tQ),(27,tQ)]⟩ Tryz.func158 rfl (by decide) (fun x=>[.inv {k:Nat // k<=(show Int from x.1).toNat} (fun k=>[(6,.val tI (k.1:Int)),(5,.own 9 0),(9,.any),(28,.any)]) (fun k=>[(9,.mat 39 47 tQ none (IV k.1 (show Int from x.2.1).toNat) 0)]) (fun k=>(show Int from x.1).toNat-k.1) ⟨0,by omega⟩ (fun k=>[.inv {q:Nat // q<=(show Int from x.2.1).toNat} (fun q=>[(8,.val tI (q.1:Int)),(7,.own 15 0),(15,.any),(24,.any)]) (fun q=>[(9,.mat 39 47 tQ none (IV k.1 (show Int from x.2.1).toNat) 0),(15,.row 47 tQ (a9E q.1) 0)]) (fun q=>(show Int from x.2.1).toNat-q.1) ⟨0,by omega⟩ (fun _=>[])])]) (fun x hp=>?_);obtain⟨m,n,u⟩:=x;change Int at m;change Int at n;refine aP ((asT Int 0=0/\asT (List (List Rat)) (aC (List Rat))=aC (List Rat)/\True)/\∀ (i:{ k:Nat // k<=Int.toNat m }),asT Bool true=true/\ifB (decide (aB (aA i)<m)) ((asT Int 0=0/\IV (aA i) n.toNat=IV (aA i) n.toNat/\asT (List Rat) (aC Rat)=aC Rat/\True)/\∀ (i_1:{ q:Nat // q<=Int.toNat n }),asT Bool true=true/\ifB (decide (aB (aA i_1)<n)) ((aV 0/\List.length (a9E (aA i_1))+List.length (aH 0::aC Rat)<=1000000000/\True)/\∃ (i':{ q:Nat // q<=Int.toNat n }),Int.toNat n-aA i'<Int.toNat n-aA i_1/\IntKind.wrap IntKind.i64 (aB (aA i_1)+1)=aB (aA i')/\IV (aA i) n.toNat=IV (aA i) n.toNat/\a9E (aA i_1)++aH 0::aC Rat=a9E (aA i')/\True) ((aW none (IV (aA i) n.toNat)+1<=1000000000/\True)/\∃ (i':{ k:Nat // k<=Int.toNat m }),Int.toNat m-aA i'<Int.toNat m-aA i/\IntKind.wrap IntKind.i64 (aB (aA i)+1)=aB (aA i')/\IV (aA i) n.toNat++a9E (aA i_1)::aC (List Rat)=IV (aA i') n.toNat/\True)) (IV m.toNat n.toNat=IV (aA i) n.toNat)) (by kernel_rfl) ?_;have hZ:(⟨false,0,[],[]⟩:aI)=bP:=rfl;dsimp only[aB,asT,aA,aC,Ty.den,Lf.den] at *
 simp only[hZ,Int.toNat_natCast,gZ,jc,jv,Dt,Cb,aW,nameAt,bW,gW,jG,rowAt,qp,jr];have hp:0<=m/\m<=1000/\0<=n/\n<=1000:=hp;obtain⟨m0,m1,n0,n1⟩:=hp;refine fun i=>⟨fun h1 q=>⟨fun h2=>⟨⟨by unfold aV;omega,by simp[a9E];have:=q.2;omega⟩,⟨q.1+1,by omega⟩,by simp only;omega,by rw[aG (by omega) (by omega)];rfl,?_⟩,fun h2=>⟨by show (IV _ _).length+1<=_;unfold IV;rw[jG];have:=i.2;omega,⟨i.1+1,by omega⟩,by simp only;omega,by rw[aG (by omega) (by omega)];rfl,?_⟩⟩,fun h1=>?_⟩
 ·show List.replicate q.1 0++[((0:Int):Rat)]=List.replicate (q.1+1) 0;rw[List.replicate_succ'];rfl
 ·have hq:q.1=n.toNat:=by have:=q.2;omega
  rw[hq];show tab i.1 n.toNat (fun _ _=>0)++[List.replicate n.toNat 0]=tab (i.1+1) n.toNat (fun _ _=>0);unfold tab;rw[wz];simp;apply List.ext_getElem<;>simp
 ·have hi:i.1=m.toNat:=by have:=i.2;omega
  rw[hi]
theorem VQ {α:Type}:∀ {l:List α},l.length=3->∃ a b c,l=[a,b,c]
 | [a,b,c],_=>⟨a,b,c,rfl⟩
theorem m33.form {K:Nat} {f:MQ} (h:m33 K f):∃ a b c d e g i j k:Rat,f=[[a,b,c],[d,e,g],[i,j,k]]:=by have l1:=h.1.1;have l2:=h.1.2.1;obtain⟨r,s,t,rfl⟩:=VQ l1;obtain⟨a,b,c,rfl⟩:=VQ (l2 r (by simp));obtain⟨d,e,g,rfl⟩:=VQ (l2 s (by simp));obtain⟨i,j,k,rfl⟩:=VQ (l2 t (by simp));exact⟨a,b,c,d,e,g,i,j,k,rfl⟩
theorem m33.flat {K:Nat} {f:MQ} (h:m33 K f):f.flatten.length=9/\∀ q ∈ f.flatten,rsz q<=K:=by
 obtain⟨a,b,c,d,e,g,i,j,k,rfl⟩:=h.form;refine⟨rfl,fun q hq=>?_⟩;have hq:q ∈ [a,b,c,d,e,g,i,j,k]:=hq;have h2:∀ x y:Nat,x<3->y<3->rsz (ent [[a,b,c],[d,e,g],[i,j,k]] x y)<=K:=fun x y hx hy=>h.2 x hx y hy;simp only[jh,Ci,or_false] at hq;rcases hq with rfl|rfl|rfl|rfl|rfl|rfl|rfl|rfl|rfl
 ·exact h2 0 0 (by omega) (by omega)
 ·exact h2 0 1 (by omega) (by omega)
 ·exact h2 0 2 (by omega) (by omega)
 ·exact h2 1 0 (by omega) (by omega)
 ·exact h2 1 1 (by omega) (by omega)
 ·exact h2 1 2 (by omega) (by omega)
 ·exact h2 2 0 (by omega) (by omega)
 ·exact h2 2 1 (by omega) (by omega)
 ·exact h2 2 2 (by omega) (by omega)
theorem m33.rows {K:Nat} {f:MQ} (h:m33 K f):f.length=3/\∀ i,i<3->(f.getD i []).length=3/\∀ j,j<3->rsz (lv (f.getD i []) j)<=K:=⟨h.1.len,fun i hi=>⟨h.1.2.1 _ (jH (by rw[h.1.len];exact hi)),fun j hj=>h.2 i (by rw[h.1.len];exact hi) j (by rw[h.1.wd];exact hj)⟩⟩
theorem cdI.mul {a b:Int} (ha:cdI a) (hb:cdI b):(a*b).natAbs<=1099511627776:=by rw[Ei];exact au (uy (show a.natAbs<=1048576 by obtain⟨x,y⟩:=ha;omega) (show b.natAbs<=1048576 by obtain⟨x,y⟩:=hb;omega)) (by omega)
theorem NT:aJ Tryz.prog 58 (cIQ aV (fun i=>(i:Rat))):=by
 refine aN (nil0.ad RN) ⟨[2],[],[]⟩ Tryz.func58 rfl (by decide) (fun x=>[]) (fun x hp=>?_);obtain⟨n,u⟩:=x;change Int at n;refine aP ((aV n/\True)/\True/\aH n=aH n/\True) (by kernel_rfl) ?_;try simp only[zP0]
 try dsimp only[aB,asT,aA,aC,Ty.den,Lf.den] at *
 try simp only[zP1]
 try simp only[zP2]
 exact hp
def XK (x y:LQ'):Prop:=x.length=y.length/\x.length<=64/\∀ i,i<x.length->rsz (lv x i)<=20000/\rsz (lv y i)<=20000
theorem b5i {x y:LQ'} {A B:Nat} {k:Nat} (h:∀ i,i<k->rsz (lv x i)<=A/\rsz (lv y i)<=B):rsz (nJ x y k)<=k*(A+B+1)+1 :=
 OA (K:=A+B) (f:=fun i=>lv x i*lv y i) k (fun i hi=>by
  have ⟨a,b⟩:=h i hi;have:=fC (lv x i) (lv y i);show rsz (lv x i*lv y i)<=_;omega)
theorem XK.sz {x y:LQ'} (h:XK x y) {k:Nat} (hk:k<=x.length):rsz (nJ x y k)<=4000000:=by have h1:=b5i (x:=x) (y:=y) (A:=20000) (B:=20000) (k:=k) fun i hi=>h.2.2 i (by omega);have h2:=h.2.1;have:k*20001<=64*20001:=uy (by omega) (by omega);omega
noncomputable def c5b:Ctr:=⟨[.list tQ,.list tQ],[tQ],fun x=>XK x.1 x.2.1,fun x=>(nJ x.1 x.2.1 (show LQ' from x.1).length,())⟩
theorem b0J:aJ Tryz.prog 18 c5b:=by
 refine aN (((nil0.ad a1v).ad a7v).ad NT) ⟨[4,5],[],[]⟩ Tryz.func18 rfl (by decide) (fun x=>[.inv {k:Nat // k<=(show LQ' from x.1).length} (fun k=>[(10,.val tI (k.1:Int))]) (fun k=>[(4,.box [⟨tR,bP⟩]),(5,.box [⟨tQ,nJ x.1 x.2.1 k.1⟩])]) (fun k=>(show LQ' from x.1).length-k.1) ⟨0,by omega⟩ (fun _=>[])]) (fun x hp=>?_);obtain⟨x,y,u⟩:=x;change List Rat at x;change List Rat at y;refine aP ((aV 0/\True)/\(asT Int 0=0/\asT aI bP=bP/\aH 0=nJ x y 0/\True)/\∀ (i:{ k:Nat // k<=List.length x }),asT Bool true=true/\ifB (decide (aB (aA i)<aB x.length)) ((0<=aB (aA i)/\aB (aA i)<aB x.length/\0<=aB (aA i)/\aB (aA i)<aB y.length/\s19 (List.getD x (aB (aA i)).toNat 0) (List.getD y (aB (aA i)).toNat 0)/\s19 (nJ x y (aA i)) (List.getD x (aB (aA i)).toNat 0*List.getD y (aB (aA i)).toNat 0)/\True)/\∃ (i':{ k:Nat // k<=List.length x }),List.length x-aA i'<List.length x-aA i/\IntKind.wrap IntKind.i64 (aB (aA i)+1)=aB (aA i')/\asT aI bP=bP/\nJ x y (aA i)+List.getD x (aB (aA i)).toNat 0*List.getD y (aB (aA i)).toNat 0=nJ x y (aA i')/\True) (True/\nJ x y (aA i)=nJ x y x.length/\True)) (by kernel_rfl) ?_;try simp only[zP0]
 try dsimp only[aB,asT,aA,aC,Ty.den,Lf.den] at *
 try simp only[zP1]
 try simp only[zP2]
 have hp:XK x y:=hp;have hs:=fun k (hk:k<=x.length)=>hp.sz hk;obtain⟨hl,h64,hr⟩:=hp;refine⟨⟨by omega,by omega⟩,rfl,fun i=>⟨fun h1=>?_,fun h1=>?_⟩⟩
 ·have hi:i.1<x.length:=by omega
  have a1:rsz (x.getD i.1 0)<=20000:=(hr i.1 hi).1;have a2:rsz (y.getD i.1 0)<=20000:=(hr i.1 hi).2;have a3:=hs i.1 i.2;have a4:=fC (x.getD i.1 0) (y.getD i.1 0);exact⟨⟨by omega,h1,by omega,by omega,⟨by omega,by omega⟩,⟨by omega,by omega⟩⟩,⟨i.1+1,by omega⟩,by simp only;omega,by rw[aG (by omega) (by omega)];rfl,rfl⟩
 ·rw[show i.1=x.length by have:=i.2;omega]
def gsq (xs:Nat->Int):Nat->Int
 | 0=>0
 | k+1=>((Int.gcd (gsq xs k) (xs k):Nat):Int)
def fsq (xs:Nat->Int):Nat->Int
 | 0=>0
 | k+1=>if fsq xs k=0 then xs k else fsq xs k
theorem EL {xs:Nat->Int} {K:Nat}:∀ k,(∀ j,j<k->isz (xs j)<=K)->isz (gsq xs k)<=K
 | 0,_=>by show isz 0<=K;rw[KD];omega
 | k+1,h=>by
  have ih:=EL k (fun j hj=>h j (by omega));show isz ((Int.gcd (gsq xs k) (xs k):Nat):Int)<=K;by_cases hx:xs k=0
  ·rw[hx,Int.gcd_zero_right];have:isz (((gsq xs k).natAbs:Nat):Int)=isz (gsq xs k):=by unfold isz;simp
   omega
  ·exact lS hx (h k (by omega))
theorem b1n {xs:Nat->Int} {j:Nat} (hj:xs j≠0):∀ k,j<k->gsq xs k≠0
 | 0,h=>by omega
 | k+1,h=>by
  show ((Int.gcd (gsq xs k) (xs k):Nat):Int)≠0;intro e;have e':Int.gcd (gsq xs k) (xs k)=0:=by omega
  rw[Int.gcd_eq_zero_iff] at e';by_cases hk:j=k
  ·subst hk;exact hj e'.2
  ·exact b1n hj k (by omega) e'.1
theorem a0V {xs:Nat->Int}:∀ k j,j<k->gsq xs k ∣ xs j
 | 0,j,h=>by omega
 | k+1,j,h=>by
  show ((Int.gcd (gsq xs k) (xs k):Nat):Int) ∣ xs j;by_cases e:j=k
  ·subst e;exact Int.gcd_dvd_right ..
  ·exact Int.dvd_trans (Int.gcd_dvd_left ..) (a0V k j (by omega))
theorem QN {x y:Int} (hy:y≠0) (h:y ∣ x):isz (x.fdiv y)<=isz x:=by obtain⟨t,rfl⟩:=h;rw[Int.mul_fdiv_cancel_left _ hy];unfold isz;rw[Ei];exact KO (Nat.le_mul_of_pos_left _ (by omega))
def jX (q:Nat->Rat):Nat->Int
 | 0=>1
 | k+1=>jX q k*((q k).den:Int).fdiv ((Int.gcd (jX q k) ((q k).den:Int):Nat):Int)
def dY (q:Nat->Rat):Nat->Int
 | 0=>1
 | k+1=>dY q k*((q k).den:Int)
def a8J (q:Nat->Rat):Nat->Nat
 | 0=>1
 | k+1=>Nat.lcm (a8J q k) (q k).den
def a0M (D:Int) (q:Nat->Rat) (j:Nat):Int:=(q j).num*D.fdiv ((q j).den:Int)
def prG (xs:Nat->Int) (n:Nat):Int:=if fsq xs n<0 then -gsq xs n else gsq xs n
def prN (xs:Nat->Int) (n j:Nat):Int:=(xs j).fdiv (prG xs n)
theorem a1h (q:Nat->Rat):∀ k,jX q k=(a8J q k:Nat)
 | 0=>rfl
 | k+1=>by show jX q k*((q k).den:Int).fdiv ((Int.gcd (jX q k) ((q k).den:Int):Nat):Int)=((Nat.lcm (a8J q k) (q k).den:Nat):Int);rw[a1h q k,Int.gcd_natCast_natCast,<-Int.ofNat_fdiv,<-Int.natCast_mul,<-Nat.mul_div_assoc _ (Nat.gcd_dvd_right _ _)];rfl
theorem a2X (q:Nat->Rat):∀ k,0<a8J q k
 | 0=>Nat.one_pos
 | k+1=>Nat.lcm_pos (a2X q k) (q k).den_pos
theorem a2W {q:Nat->Rat}:∀ k j,j<k->(q j).den ∣ a8J q k
 | 0,j,h=>by omega
 | k+1,j,h=>by
  show (q j).den ∣ Nat.lcm (a8J q k) (q k).den;by_cases e:j=k
  ·subst e;exact Nat.dvd_lcm_right _ _
  ·exact Nat.dvd_trans (a2W k j (by omega)) (Nat.dvd_lcm_left _ _)
theorem uD (q:Nat->Rat) (k:Nat):jX q k≠0:=by rw[a1h];have:=a2X q k;omega
theorem kY {q:Nat->Rat} {k j:Nat} (h:j<k):((q j).den:Int) ∣ jX q k:=by rw[a1h];exact Int.natCast_dvd_natCast.2 (a2W k j h)
def mulN (q:Nat->Rat):Nat->Nat
 | 0=>1
 | k+1=>mulN q k*(q k).den
theorem a1n (q:Nat->Rat):∀ k,dY q k=(mulN q k:Nat)
 | 0=>rfl
 | k+1=>by show dY q k*((q k).den:Int)=((mulN q k*(q k).den:Nat):Int);rw[a1n q k,Int.natCast_mul]
theorem a3i (q:Nat->Rat):∀ k,0<mulN q k
 | 0=>Nat.one_pos
 | k+1=>Nat.mul_pos (a3i q k) (q k).den_pos
theorem a3h {q:Nat->Rat}:∀ k j,j<k->(q j).den ∣ mulN q k
 | 0,j,h=>by omega
 | k+1,j,h=>by
  show (q j).den ∣ mulN q k*(q k).den;by_cases e:j=k
  ·subst e;exact Nat.dvd_mul_left _ _
  ·exact Nat.dvd_trans (a3h k j (by omega)) (Nat.dvd_mul_right _ _)
theorem a6I (q:Nat->Rat) (k:Nat):dY q k≠0:=by rw[a1n];have:=a3i q k;omega
theorem KL {q:Nat->Rat} {k j:Nat} (h:j<k):((q j).den:Int) ∣ dY q k:=by rw[a1n];exact Int.natCast_dvd_natCast.2 (a3h k j h)
theorem a3g {q:Nat->Rat} {K n:Nat} (h:∀ k,k<n->rsz (q k)<=K):∀ k,k<=n->isz (dY q k)<=k*K+1
 | 0,_=>by show isz 1<=_;rw[show isz 1=1 by decide +kernel];omega
 | k+1,hk=>by have ih:=a3g h k (by omega);have m:=iC (dY q k) ((q k).den:Int);have d:=kK (q k);have:=h k (by omega);show isz (dY q k*((q k).den:Int))<=_;rw[Aa];omega
theorem b8w (q:Nat->Rat) (k:Nat):((Int.gcd (jX q k) ((q k).den:Int):Nat):Int)≠0:=fun e=>by
 have e:Int.gcd (jX q k) ((q k).den:Int)=0:=by omega
 exact uD q k (Int.gcd_eq_zero_iff.1 e).1
theorem b8x {q:Nat->Rat} {K k:Nat} (h:rsz (q k)<=K):isz (((q k).den:Int).fdiv ((Int.gcd (jX q k) ((q k).den:Int):Nat):Int))<=K :=
 au (QN (b8w q k) (Int.gcd_dvd_right ..)) (au (kK _) h)
theorem KF {q:Nat->Rat} {K n:Nat} (h:∀ k,k<n->rsz (q k)<=K):∀ k,k<=n->isz (jX q k)<=k*K+1
 | 0,_=>by show isz 1<=_;rw[show isz 1=1 by decide +kernel];omega
 | k+1,hk=>by have ih:=KF h k (by omega);have m:=iC (jX q k) (((q k).den:Int).fdiv ((Int.gcd (jX q k) ((q k).den:Int):Nat):Int));have d:=b8x (h k (by omega));show isz (jX q k*((q k).den:Int).fdiv ((Int.gcd (jX q k) ((q k).den:Int):Nat):Int))<=_;rw[Aa];omega
theorem a4k {D:Int} {q:Nat->Rat} {j C:Nat} (hD:isz D<=C) (h:((q j).den:Int) ∣ D):isz (D.fdiv ((q j).den:Int))<=C :=
 au (QN (by have:=(q j).den_nz;omega) h) hD
theorem JD {D:Int} {q:Nat->Rat} {j K C:Nat} (hD:isz D<=C) (h:((q j).den:Int) ∣ D) (hK:rsz (q j)<=K):isz (a0M D q j)<=K+C:=by have m:=iC (q j).num (D.fdiv ((q j).den:Int));have a:=mZ (q j);have b:=a4k hD h;unfold a0M;omega
theorem DZ {D:Int} {q:Nat->Rat} {j:Nat} (h0:D≠0) (h:((q j).den:Int) ∣ D) (hq:q j≠0):a0M D q j≠0:=by
 intro e;unfold a0M at e;obtain⟨t,rfl⟩:=h;have hd:((q j).den:Int)≠0:=by have:=(q j).den_nz;omega
 rw[Int.mul_fdiv_cancel_left _ hd] at e;rcases Int.mul_eq_zero.1 e with e|e
 ·exact hq (Bj.1 e)
 ·exact h0 (by rw[e,Int.mul_zero])
theorem ES {xs:Nat->Int} {n j:Nat} (hj:j<n):prG xs n ∣ xs j:=by
 unfold prG;split
 ·exact Int.neg_dvd.2 (a0V n j hj)
 ·exact a0V n j hj
theorem CG {xs:Nat->Int} {n j:Nat} (hj:j<n) (h:xs j≠0):prG xs n≠0:=by have:=b1n h n hj;unfold prG;split<;>omega
theorem a7e {xs:Nat->Int} {n K:Nat} (h:∀ j,j<n->isz (xs j)<=K):isz (prG xs n)<=K:=by
 unfold prG;split
 ·rw[kR];exact EL n h
 ·exact EL n h
theorem a7g {xs:Nat->Int} {n j K:Nat} (hj:j<n) (h0:prG xs n≠0) (h:isz (xs j)<=K):isz (prN xs n j)<=K:=au (QN h0 (ES hj)) h
theorem YN {t:Nat} {xs ys:Nat->Int} {n:Nat} (h:∀ j,j<n->ys j=(t:Int)*xs j):∀ k,k<=n->gsq ys k=(t:Int)*gsq xs k
 | 0,_=>by show (0:Int)=(t:Int)*0;rw[Int.mul_zero]
 | k+1,hk=>by show ((Int.gcd (gsq ys k) (ys k):Nat):Int)=(t:Int)*((Int.gcd (gsq xs k) (xs k):Nat):Int);rw[YN h k (by omega),h k (by omega),Int.gcd_mul_left,Int.natAbs_natCast,Int.natCast_mul]
theorem YI {t:Nat} (ht:0<t) {xs ys:Nat->Int} {n:Nat} (h:∀ j,j<n->ys j=(t:Int)*xs j):∀ k,k<=n->fsq ys k=(t:Int)*fsq xs k
 | 0,_=>by show (0:Int)=(t:Int)*0;rw[Int.mul_zero]
 | k+1,hk=>by
  show (if fsq ys k=0 then ys k else fsq ys k)=(t:Int)*(if fsq xs k=0 then xs k else fsq xs k);rw[YI ht h k (by omega),h k (by omega)];by_cases e:fsq xs k=0
  ·rw[dn e,dn (by rw[e,Int.mul_zero])]
  ·rw[bn e,bn (fun e2=>by rcases Int.mul_eq_zero.1 e2 with e2|e2<;>omega)]
theorem ZO {t:Nat} (ht:0<t) {xs ys:Nat->Int} {n j:Nat} (h:∀ j,j<n->ys j=(t:Int)*xs j) (hj:j<n):prN ys n j=prN xs n j:=by
 have ht':(0:Int)<(t:Int):=by omega
 have e:prG ys n=(t:Int)*prG xs n:=by
  unfold prG;rw[YN h n (aj n),YI ht h n (aj n)];by_cases e:fsq xs n<0
  ·rw[dn e,dn (Int.mul_neg_of_pos_of_neg ht' e),Int.mul_neg]
  ·rw[bn e,bn (fun e2=>by have:=Int.mul_nonneg (Int.le_of_lt ht') (show 0<=fsq xs n by omega);omega)]
 unfold prN;rw[e,h j hj,Int.mul_fdiv_mul_of_pos _ _ ht']
def a3w (q:Nat->Rat) (n:Nat):List Int:=(List.range n).map (prN (a0M (jX q n) q) n)
def vN (l:LQ'):Prop:=l.length<=64/\(∀ q ∈ l,rsz q<=1000000)/\∃ q ∈ l,q≠0
def lcN (l:LQ') (j:Nat):Int:=a0M (jX (lv l) l.length) (lv l) j
def mY (l:LQ'):List Int:=a3w (lv l) l.length
noncomputable def c8d:Ctr:=⟨[.list tQ],[.list tZ],fun x=>vN x.1,fun x=>(mY x.1,())⟩
def prO (N:Nat->Int) (n k:Nat):List Int:=(List.range n).map fun j=>if j<k then prN N n j else N j
theorem wK {N:Nat->Int} {n k:Nat}:(prO N n k).length=n:=by unfold prO;simp
theorem VB {N:Nat->Int} {n k j:Nat} (h:j<n):(prO N n k).getD j 0=if j<k then prN N n j else N j:=by unfold prO;rw[bg,qo,Ae h];rfl
theorem b8C {N:Nat->Int} {n:Nat}:(List.range n).map N=prO N n 0:=og fun j _=>(bn (by omega)).symm
theorem b8D {N:Nat->Int} {n:Nat}:prO N n n=(List.range n).map (prN N n):=og fun j hj=>dn (oq.1 hj)
theorem a7h {N:Nat->Int} {n k:Nat} (h:k<n):(prO N n k).set k (((prO N n k).getD k 0).fdiv (prG N n))=prO N n (k+1):=by
 rw[VB h,bn (by omega)];apply List.ext_getElem?;intro j;unfold prO;rw[List.getElem?_set];by_cases e:k=j
 ·subst e;rw[dn rfl,qo,Ae h,dn (by simpa using h)];show some _=some (if k<k+1 then prN N n k else N k);rw[dn (by omega)];rfl
 ·rw[bn e,qo,qo];by_cases hj:j<n
  ·rw[Ae hj];show some (if j<k then prN N n j else N j)=some (if j<k+1 then prN N n j else N j);by_cases h2:j<k
   ·rw[dn h2,dn (by omega)]
   ·rw[bn h2,bn (by omega)]
  ·rw[qm (by simpa using hj)];rfl
theorem vN.at {l:LQ'} (h:vN l):(∀ k,k<l.length->rsz (lv l k)<=1000000)/\∃ j,j<l.length/\lv l j≠0:=by refine⟨fun k hk=>cO h.2.1 hk,?_⟩;obtain⟨q,hq,hz⟩:=h.2.2;obtain⟨j,hj,rfl⟩:=Dn hq;exact⟨j,hj,by show l.getD j 0≠0;rw[bg,dw hj];exact hz⟩
theorem c4e {x:Int}:(x.sign=0)=(x=0):=propext wu
theorem b3H {x:Int}:(sgn x=0)=(x=0):=propext wu
theorem ED (q:Rat):((q.den:Nat):Int)≠0:=by have:=q.den_nz;omega
theorem a7j:aJ Tryz.prog 149 c8d:=by
 refine aN ((((((nil0.ad PW).ad BF).ad qB).ad vJ).ad qC).ad BA) ⟨[3,5,6,7,8,11,12,14,15,16,18,20],[],[]⟩ Tryz.func149 rfl (by decide) (fun x=>[.inv {k:Nat // k<=(show LQ' from x.1).length} (fun k=>[(24,.val tI (k.1:Int))]) (fun k=>[(3,.box [⟨tZ,jX (lv (show LQ' from x.1)) k.1⟩])]) (fun k=>(show LQ' from x.1).length-k.1) ⟨0,by omega⟩ (fun _=>[]),
  .inv {k:Nat // k<=(show LQ' from x.1).length} (fun k=>[(46,.val tI (k.1:Int)),(10,.own 64 0),(64,.any)]) (fun k=>[(64,.row 45 tZ ((List.range k.1).map (lcN (show LQ' from x.1))) 0),(3,.box [⟨tZ,jX (lv (show LQ' from x.1)) (show LQ' from x.1).length⟩]),(11,.box [⟨tZ,gsq (lcN (show LQ' from x.1)) k.1⟩]),(12,.box [⟨tZ,fsq (lcN (show LQ' from x.1)) k.1⟩])]) (fun k=>(show LQ' from x.1).length-k.1) ⟨0,by omega⟩ (fun _=>[]),
  .inv {k:Nat // k<=(show LQ' from x.1).length} (fun k=>[(81,.val tI (k.1:Int))]) (fun k=>[(64,.row 45 tZ (prO (lcN (show LQ' from x.1)) (show LQ' from x.1).length k.1) 0),(11,.box [⟨tZ,prG (lcN (show LQ' from x.1)) (show LQ' from x.1).length⟩])]) (fun k=>(show LQ' from x.1).length-k.1) ⟨0,by omega⟩ (fun _=>[])]) (fun x hp=>?_)
 obtain⟨l,u⟩:=x;change List Rat at l;refine aP (let A₀:=(jX (lv l) l.length);let A₁:=(prG (lcN l) l.length);(aV 1/\True)/\(asT Int 0=0/\1=jX (lv l) 0/\True)/\∀ (i:{ k:Nat // k<=List.length l }),let aK:=(jX (lv l) (aA i));let A₂:=(Int.gcd aK (aB (Rat.den (List.getD l (aB (aA i)).toNat 0))));asT Bool true=true/\ifB (decide (aB (aA i)<aB l.length)) ((0<=aB (aA i)/\aB (aA i)<aB l.length/\True)/\((isz aK<=1000000000/\isz (aB (Rat.den (List.getD l (aB (aA i)).toNat 0)))<=1000000000)/\True)/\((isz (aB (Rat.den (List.getD l (aB (aA i)).toNat 0)))<=1000000000/\isz (aB A₂)<=1000000000/\aB A₂≠0)/\True)/\((isz aK<=1000000000/\isz (Int.fdiv (aB (Rat.den (List.getD l (aB (aA i)).toNat 0))) (aB A₂))<=1000000000)/\True)/\∃ (i':{ k:Nat // k<=List.length l }),List.length l-aA i'<List.length l-aA i/\IntKind.wrap IntKind.i64 (aB (aA i)+1)=aB (aA i')/\jX (lv l) (aA i)*Int.fdiv (aB (Rat.den (List.getD l (aB (aA i)).toNat 0))) (aB A₂)=jX (lv l) (aA i')/\True) ((asT Int 0=0/\(True/\asT (List Int) (aC Int)=aC Int)/\(asT (List Int) (aC Int)=aC Int/\0=0/\asT Bool true=true)/\jX (lv l) (aA i)=jX (lv l) l.length/\0=gsq (lcN l) 0/\0=fsq (lcN l) 0/\True)/\∀ (i:{ k:Nat // k<=List.length l }),let aO:=(List.getD l (aB (aA i)).toNat 0);let bC:=(Rat.num aO*Int.fdiv A₀ (aB (Rat.den aO)));let bI:=(List.map (lcN l) (List.range (aA i)));let bH:=(gsq (lcN l) (aA i));asT Bool true=true/\ifB (decide (aB (aA i)<aB l.length)) ((0<=aB (aA i)/\aB (aA i)<aB l.length/\True)/\((isz A₀<=1000000000/\isz (aB (Rat.den aO))<=1000000000/\aB (Rat.den aO)≠0)/\True)/\((isz (Rat.num aO)<=1000000000/\isz (Int.fdiv A₀ (aB (Rat.den aO)))<=1000000000)/\True)/\(List.length bI+List.length (Rat.num aO*Int.fdiv A₀ (aB (Rat.den aO))::aC Int)<=1000000000/\True)/\((isz bH<=1000000000/\isz bC<=1000000000)/\True)/\(True/\True)/\ifB (Int.sign (fsq (lcN l) (aA i))==0) (∃ (i':{ k:Nat // k<=List.length l }),List.length l-aA i'<List.length l-aA i/\IntKind.wrap IntKind.i64 (aB (aA i)+1)=aB (aA i')/\List.map (lcN l) (List.range (aA i))++Rat.num aO*Int.fdiv A₀ (aB (Rat.den aO))::aC Int=List.map (lcN l) (List.range (aA i'))/\jX (lv l) l.length=jX (lv l) l.length/\aB (Int.gcd bH bC)=gsq (lcN l) (aA i')/\Rat.num aO*Int.fdiv A₀ (aB (Rat.den aO))=fsq (lcN l) (aA i')/\True) (∃ (i':{ k:Nat // k<=List.length l }),List.length l-aA i'<List.length l-aA i/\IntKind.wrap IntKind.i64 (aB (aA i)+1)=aB (aA i')/\List.map (lcN l) (List.range (aA i))++Rat.num aO*Int.fdiv A₀ (aB (Rat.den aO))::aC Int=List.map (lcN l) (List.range (aA i'))/\jX (lv l) l.length=jX (lv l) l.length/\aB (Int.gcd bH bC)=gsq (lcN l) (aA i')/\fsq (lcN l) (aA i)=fsq (lcN l) (aA i')/\True)) ((True/\True)/\ifB (decide (Int.sign (fsq (lcN l) (aA i))<0)) ((isz bH<=1000000000/\True)/\(asT Int 0=0/\List.map (lcN l) (List.range (aA i))=prO (lcN l) l.length 0/\-gsq (lcN l) (aA i)=prG (lcN l) l.length/\True)/\∀ (i_1:{ k:Nat // k<=List.length l }),let bU:=(prO (lcN l) l.length (aA i_1));let cZ:=(aB (aA i_1)).toNat;asT Bool true=true/\ifB (decide (aB (aA i_1)<aB bI.length)) ((0<=aB (aA i_1)/\aB (aA i_1)<aB bU.length/\Int.toNat (aB (aA i_1))<List.length bU/\True)/\((isz (List.getD bU cZ 0)<=1000000000/\isz A₁<=1000000000/\prG (lcN l) l.length≠0)/\0<=aB (aA i_1)/\aB (aA i_1)<aB bU.length/\Int.toNat (aB (aA i_1))<List.length bU/\True)/\∃ (i':{ k:Nat // k<=List.length l }),List.length l-aA i'<List.length l-aA i_1/\IntKind.wrap IntKind.i64 (aB (aA i_1)+1)=aB (aA i')/\List.set bU cZ (Int.fdiv (List.getD bU cZ 0) A₁)=prO (lcN l) l.length (aA i')/\prG (lcN l) l.length=prG (lcN l) l.length/\True) (True/\prO (lcN l) l.length (aA i_1)=mY l/\True)) ((asT Int 0=0/\List.map (lcN l) (List.range (aA i))=prO (lcN l) l.length 0/\gsq (lcN l) (aA i)=prG (lcN l) l.length/\True)/\∀ (i_1:{ k:Nat // k<=List.length l }),let dG:=(prO (lcN l) l.length (aA i_1));let fB:=(aB (aA i_1)).toNat;asT Bool true=true/\ifB (decide (aB (aA i_1)<aB bI.length)) ((0<=aB (aA i_1)/\aB (aA i_1)<aB dG.length/\Int.toNat (aB (aA i_1))<List.length dG/\True)/\((isz (List.getD dG fB 0)<=1000000000/\isz A₁<=1000000000/\prG (lcN l) l.length≠0)/\0<=aB (aA i_1)/\aB (aA i_1)<aB dG.length/\Int.toNat (aB (aA i_1))<List.length dG/\True)/\∃ (i':{ k:Nat // k<=List.length l }),List.length l-aA i'<List.length l-aA i_1/\IntKind.wrap IntKind.i64 (aB (aA i_1)+1)=aB (aA i')/\List.set dG fB (Int.fdiv (List.getD dG fB 0) A₁)=prO (lcN l) l.length (aA i')/\prG (lcN l) l.length=prG (lcN l) l.length/\True) (True/\prO (lcN l) l.length (aA i_1)=mY l/\True))))) (by kernel_rfl) ?_;try simp only[zP0]
 try dsimp only[aB,asT,aA,aC,Ty.den,Lf.den] at *
 try simp only[zP1]
 try simp only[zP2]
 have hp:vN l:=hp;obtain⟨hK,j0,hj0,hx0⟩:=hp.at
 have hn:=hp.1;have hv:∀ j,l.getD j 0=lv l j:=fun _=>rfl;simp only[hv,ny,jr,c4e] at *
 have hL:∀ k,k<=l.length->isz (jX (lv l) k)<=64000001:=fun k hk=>au (KF hK k hk) (by omega);have hd:∀ k,k<l.length->isz ((lv l k).den:Int)<=1000000:=fun k hk=>au (kK _) (hK k hk);have hm:∀ k,k<l.length->isz (lv l k).num<=1000000:=fun k hk=>au (mZ _) (hK k hk);have hN:∀ j,j<l.length->isz (lcN l j)<=65000001:=fun j hj=>au (JD (hL _ (aj _)) (kY hj) (hK j hj)) (by omega);have hne:prG (lcN l) l.length≠0:=CG hj0 (DZ (uD _ _) (kY hj0) hx0);have hG:isz (prG (lcN l) l.length)<=65000001:=a7e hN;have hg:∀ k,k<=l.length->isz (gsq (lcN l) k)<=65000001:=fun k hk=>EL k fun j hj=>hN j (by omega);have hN2:∀ j,(lv l j).num*(jX (lv l) l.length).fdiv ((lv l j).den:Int)=lcN l j:=fun _=>rfl;simp only[hN2];refine⟨⟨by omega,by omega⟩,rfl,fun i=>⟨fun h1=>?_,fun h1=>⟨⟨by rw[show i.1=l.length by have:=i.2;omega],rfl,rfl⟩,fun i2=>⟨fun h2=>?_,fun h2=>?_⟩⟩⟩⟩
 ·have hi:i.1<l.length:=by omega
  exact⟨⟨by omega,h1⟩,⟨au (hL _ i.2) (by omega),au (hd _ hi) (by omega)⟩,⟨au (hd _ hi) (by omega),au (lS (ED _) (hd _ hi)) (by omega),b8w _ _⟩,⟨au (hL _ i.2) (by omega),au (b8x (hK _ hi)) (by omega)⟩,⟨i.1+1,by omega⟩,by simp only;omega,by rw[aG (by omega) (by omega)];rfl,rfl⟩
 ·have hi:i2.1<l.length:=by omega
  refine⟨⟨by omega,h2⟩,⟨au (hL _ (aj _)) (by omega),au (hd _ hi) (by omega),ED _⟩,⟨au (hm _ hi) (by omega),au (a4k (hL _ (aj _)) (kY hi)) (by omega)⟩,by omega,⟨au (hg _ i2.2) (by omega),au (hN _ hi) (by omega)⟩,fun h3=>⟨⟨i2.1+1,by omega⟩,by simp only;omega,by rw[aG (by omega) (by omega)];rfl,?_,rfl,?_⟩,fun h3=>⟨⟨i2.1+1,by omega⟩,by simp only;omega,by rw[aG (by omega) (by omega)];rfl,?_,rfl,?_⟩⟩
  ·rw[wz,Az];rfl
  ·exact(dn h3).symm
  ·rw[wz,Az];rfl
  ·exact(bn h3).symm
 ·have hi2:i2.1=l.length:=by have:=i2.2;omega
  rw[hi2];refine⟨fun h3=>⟨au (hg _ (aj _)) (by omega),?_⟩,fun h3=>?_⟩
  ·refine⟨⟨b8C,(dn (Cm.1 h3)).symm⟩,fun i3=>⟨fun h4=>?_,fun h4=>?_⟩⟩
   ·have hi3:i3.1<l.length:=by omega
    rw[VB hi3,bn (by omega)];refine⟨⟨by omega,by rw[wK];omega,by rw[wK];exact hi3⟩,⟨⟨au (hN _ hi3) (by omega),au hG (by omega),hne⟩,by omega,by rw[wK];omega,by rw[wK];exact hi3⟩,⟨i3.1+1,by omega⟩,by simp only;omega,by rw[aG (by omega) (by omega)];rfl,?_⟩;have:=a7h (N:=lcN l) hi3;rw[VB hi3,bn (by omega)] at this;exact this
   ·rw[show i3.1=l.length by have:=i3.2;omega,b8D];rfl
  ·refine⟨⟨b8C,(bn (fun e=>h3 (Cm.2 e))).symm⟩,fun i3=>⟨fun h4=>?_,fun h4=>?_⟩⟩
   ·have hi3:i3.1<l.length:=by omega
    rw[VB hi3,bn (by omega)];refine⟨⟨by omega,by rw[wK];omega,by rw[wK];exact hi3⟩,⟨⟨au (hN _ hi3) (by omega),au hG (by omega),hne⟩,by omega,by rw[wK];omega,by rw[wK];exact hi3⟩,⟨i3.1+1,by omega⟩,by simp only;omega,by rw[aG (by omega) (by omega)];rfl,?_⟩;have:=a7h (N:=lcN l) hi3;rw[VB hi3,bn (by omega)] at this;exact this
   ·rw[show i3.1=l.length by have:=i3.2;omega,b8D];rfl
theorem KW (l:LQ'):(mY l).length=l.length:=by unfold mY a3w;simp
theorem b6O {l:LQ'} (h:vN l):∀ n ∈ mY l,isz n<=65000001:=fun n hn=>by
 obtain⟨hK,j0,hj0,hx0⟩:=h.at
 have h64:=h.1;have hN:∀ j,j<l.length->isz (lcN l j)<=65000001:=fun j hj=>au (JD (au (KF hK _ (aj _)) (show _<=64000001 by omega)) (kY hj) (hK j hj)) (by omega);obtain⟨j,hj,rfl⟩:=jq.1 hn;have hj:=oq.1 hj;exact a7g hj (CG hj0 (DZ (uD _ _) (kY hj0) hx0)) (hN j hj)
theorem whT {P:List Int} {i:Nat} (hi:i<P.length):(P.map fun n=>aH n).take i++[aH (P.getD i 0)]=(P.map fun n=>aH n).take (i+1):=by rw[Ew,qo,dw hi,bg,dw hi];rfl
theorem a2l (n:Int):Rat.divInt n 1=aH n:=by rw[show (1:Int)=((1:Nat):Int) from rfl,Rat.divInt_ofNat];exact Rat.mkRat_one n
noncomputable def c5r:Ctr:=⟨[tZ],[tQ],fun x=>isz x.1<=390000000,fun x=>(aH x.1,())⟩
theorem VE:aJ Tryz.prog 150 c5r:=by
 refine aN ((nil0.ad PW).ad JQ) ⟨[2,3],[],[]⟩ Tryz.func150 rfl (by decide) (fun x=>[]) (fun x hp=>?_);obtain⟨n,u⟩:=x;change Int at n;refine aP ((aV 1/\(isz n<=1000000000/\isz 1<=1000000000)/\True)/\(asT Bool true=true/\True)/\Rat.divInt n 1=aH n/\True) (by kernel_rfl) ?_;try simp only[zP0]
 try dsimp only[aB,asT,aA,aC,Ty.den,Lf.den] at *
 try simp only[zP1]
 try simp only[zP2]
 have hp:isz n<=390000000:=hp;exact⟨⟨⟨by omega,by omega⟩,by omega,by rw[show isz 1=1 by decide +kernel];omega⟩,(a2l n)⟩
theorem i9T {l:LQ'} (h:l.length=9) {i:Nat} (h9:i<=9) (hi:¬ (i:Int)<((mY l).length:Int)):(((mY l).map fun n=>aH n).take i)=(mY l).map fun n=>aH n:=jf (by rw[ny];omega)
def a0P {α:Type} (l:List α):List (List α):=[l.take 3,(l.take 6).drop 3,l.drop 6]
def sU (l:LQ'):MQ:=a0P ((mY l).map fun n=>aH n)
noncomputable def c4M:Ctr:=⟨[.list tQ],[tM],fun x=>vN x.1/\(show LQ' from x.1).length=9,fun x=>(sU x.1,())⟩
theorem b0c:aJ Tryz.prog 62 c4M:=by
 refine aN ((nil0.ad a7j).ad VE) ⟨[5],[],[]⟩ Tryz.func62 rfl (by decide) (fun x=>[.inv {k:Nat // k<=9} (fun k=>[(9,.val tI (k.1:Int)),(3,.own 16 0),(16,.any)]) (fun k=>[(16,.row 47 tQ (((mY (show LQ' from x.1)).map fun n=>aH n).take k.1) 0)]) (fun k=>9-k.1) ⟨0,by omega⟩ (fun _=>[])]) (fun x hp=>?_);obtain⟨l,u⟩:=x;change List Rat at l;refine aP (let A₀:=(List.map (fun(n:Int)=>aH n) (mY l));(vN l/\True)/\(asT Int 0=0/\(True/\asT (List Rat) (aC Rat)=aC Rat)/\(asT (List Rat) (aC Rat)=aC Rat/\0=0/\asT Bool true=true)/\True)/\∀ (i:{ k:Nat // k<=9 }),let A₁:=(List.take (aA i) A₀);let A₂:=(List.getD (mY l) (aB (aA i)).toNat 0);asT Bool true=true/\ifB (decide (aB (aA i)<aB (mY l).length)) ((0<=aB (aA i)/\aB (aA i)<aB (mY l).length/\True)/\(isz A₂<=390000000/\List.length A₁+List.length (aH A₂::aC Rat)<=1000000000/\True)/\∃ (i':{ k:Nat // k<=9 }),9-aA i'<9-aA i/\IntKind.wrap IntKind.i64 (aB (aA i)+1)=aB (aA i')/\List.take (aA i) A₀++aH A₂::aC Rat=List.take (aA i') A₀/\True) ((asT Int 0<=0/\asT Int 0<=3/\asT Int 3<=3/\3<=aB A₁.length/\asT Int 0<=3/\asT Int 3<=6/\asT Int 6<=6/\6<=aB A₁.length/\asT Int 0<=6/\6<=aB A₁.length/\aB A₁.length<=aB A₁.length/\True)/\True/\List.drop 0 (List.take 3 A₁)::List.drop 3 (List.take 6 A₁)::List.drop 6 (List.take (aB A₁.length).toNat A₁)::aC (List Rat)=sU l/\True)) (by kernel_rfl) ?_;try simp only[zP0]
 try dsimp only[aB,asT,aA,aC,Ty.den,Lf.den] at *
 try simp only[zP1]
 try simp only[zP2]
 obtain⟨hp,h9⟩:vN l/\l.length=9:=hp;have hl:=KW l;refine⟨hp,fun i=>⟨fun h1=>⟨⟨by omega,h1⟩,⟨au (cO (b6O hp) (by omega)) (by omega),by rw[jk];omega⟩,⟨i.1+1,by omega⟩,by simp only;omega,by rw[aG (by omega) (by omega)];rfl,whT (by omega)⟩,fun h1=>?_⟩⟩;rw[i9T h9 i.2 h1,ny,hl,h9];refine⟨by omega,?_⟩;unfold sU a0P;rw[List.drop_zero,jf (i:=9) (by rw[ny];omega)]
end Go.Proofs.YtbkocjmmbkifjaaGreat
