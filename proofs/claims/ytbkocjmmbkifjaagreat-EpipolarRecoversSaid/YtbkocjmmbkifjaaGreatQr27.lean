/-
  Lemmas for the theorem vrecovers28_holds, part 27 of 35.
-/
import Derived.Test.YtbkocjmmbkifjaaGreatQr26
namespace Go.Proofs.YtbkocjmmbkifjaaGreat
open Go Go.RowKit
set_option maxRecDepth 100000
set_option maxHeartbeats 1000000
set_option linter.unusedVariables false
set_option linter.unusedSimpArgs false
theorem a0V {α:Type}:∀ {l:List α},l.length=3->∃ a b c,l=[a,b,c]
 | [a,b,c],_=>⟨a,b,c,rfl⟩
theorem m33.form {K:Nat} {f:MQ} (h:m33 K f):∃ a b c d e g i j k:Rat,f=[[a,b,c],[d,e,g],[i,j,k]]:=by
 have l1:=h.1.1
 have l2:=h.1.2.1
 obtain⟨r,s,t,rfl⟩:=a0V l1
 obtain⟨a,b,c,rfl⟩:=a0V (l2 r (by simp))
 obtain⟨d,e,g,rfl⟩:=a0V (l2 s (by simp))
 obtain⟨i,j,k,rfl⟩:=a0V (l2 t (by simp))
 exact⟨a,b,c,d,e,g,i,j,k,rfl⟩
theorem m33.flat {K:Nat} {f:MQ} (h:m33 K f):f.flatten.length=9/\∀ q ∈ f.flatten,rsz q<=K:=by
 obtain⟨a,b,c,d,e,g,i,j,k,rfl⟩:=h.form
 refine⟨rfl,fun q hq=>?_⟩
 have hq:q ∈ [a,b,c,d,e,g,i,j,k]:=hq
 have h2:∀ x y:Nat,x<3->y<3->rsz (ent [[a,b,c],[d,e,g],[i,j,k]] x y)<=K:=fun x y hx hy=>h.2 x hx y hy
 simp only[qj,Ag,or_false] at hq
 rcases hq with rfl|rfl|rfl|rfl|rfl|rfl|rfl|rfl|rfl
 ·exact h2 0 0 (by omega) (by omega)
 ·exact h2 0 1 (by omega) (by omega)
 ·exact h2 0 2 (by omega) (by omega)
 ·exact h2 1 0 (by omega) (by omega)
 ·exact h2 1 1 (by omega) (by omega)
 ·exact h2 1 2 (by omega) (by omega)
 ·exact h2 2 0 (by omega) (by omega)
 ·exact h2 2 1 (by omega) (by omega)
 ·exact h2 2 2 (by omega) (by omega)
theorem m33.rows {K:Nat} {f:MQ} (h:m33 K f):f.length=3/\∀ i,i<3->(f.getD i []).length=3/\∀ j,j<3->rsz (lv (f.getD i []) j)<=K:=⟨h.1.len,fun i hi=>⟨h.1.2.1 _ (kD (by rw[h.1.len];exact hi)),fun j hj=>h.2 i (by rw[h.1.len];exact hi) j (by rw[h.1.wd];exact hj)⟩⟩
theorem cdI.mul {a b:Int} (ha:cdI a) (hb:cdI b):(a*b).natAbs<=1099511627776:=by
 rw[Int.natAbs_mul]
 exact jl (xw (show a.natAbs<=1048576 by obtain⟨x,y⟩:=ha;omega) (show b.natAbs<=1048576 by obtain⟨x,y⟩:=hb;omega)) (by omega)
def OT (p:dA):List Int:=[p.2.1.1*p.1.1,p.2.1.1*p.1.2.1,p.2.1.1*1,p.2.1.2.1*p.1.1,p.2.1.2.1*p.1.2.1,p.2.1.2.1*1,1*p.1.1,1*p.1.2.1,1*1]
theorem b5T (p:dA) {k c:Nat} (hk:k<3) (hc:c<3):(OT p).getD (3*k+c) 0=(b3u p.2.1).getD k 0*(b3u p.1).getD c 0:=by
 have h1:k=0\/k=1\/k=2:=by omega
 have h2:c=0\/c=1\/c=2:=by omega
 rcases h1 with rfl|rfl|rfl<;>rcases h2 with rfl|rfl|rfl<;>rfl
theorem b5U {p:dA} (h1:cdP p.1) (h2:cdP p.2.1):∀ n ∈ OT p,n.natAbs<=1099511627776:=fun n hn=>by
 have o:cdI 1:=⟨by omega,by omega⟩
 simp only[OT,qj,Ag,or_false] at hn
 rcases hn with rfl|rfl|rfl|rfl|rfl|rfl|rfl|rfl|rfl
 ·exact h2.1.mul h1.1
 ·exact h2.1.mul h1.2
 ·exact h2.1.mul o
 ·exact h2.2.mul h1.1
 ·exact h2.2.mul h1.2
 ·exact h2.2.mul o
 ·exact o.mul h1.1
 ·exact o.mul h1.2
 ·exact o.mul o
theorem a8k:aI Tryz.prog 58 (cIQ bU (fun i=>(i:Rat))):=by
 refine aJ (nil0.ad KC) ⟨[2],[],[]⟩ Tryz.func58 rfl (by decide) (fun x=>[]) (fun x hp=>?_)
 obtain⟨n,u⟩:=x
 change Int at n
 refine aT ((bU n/\True)/\True/\aV n=aV n/\True) (by kernel_rfl) ?_
 have hZ:(⟨false,0,[],[]⟩:aH)=bC:=rfl
 try simp only[aC,aj,ah]
 try dsimp only[aB,asT,aA,aF,Ty.den,Lf.den] at *
 try simp only[hZ,Int.toNat_natCast,aC,aj,ah,jg,jf,gy,bg]
 try simp only[bT,bP,List.all_cons,List.all_nil,jh,dw,ig,je,jy,ne_eq,au,bn,dh,eu,jd,oh,jo,oq,jg,jf,iw,bf,List.length_cons,List.length_nil]
 exact hp
def b6N (x y:LQ'):Prop:=x.length=y.length/\x.length<=64/\∀ i,i<x.length->rsz (lv x i)<=20000/\rsz (lv y i)<=20000
theorem b3X {x y:LQ'} {A B:Nat} {k:Nat} (h:∀ i,i<k->rsz (lv x i)<=A/\rsz (lv y i)<=B):rsz (zI x y k)<=k*(A+B+1)+1 :=
 UH (K:=A+B) (f:=fun i=>lv x i*lv y i) k (fun i hi=>by
  have ⟨a,b⟩:=h i hi
  have:=pF (lv x i) (lv y i);show rsz (lv x i*lv y i)<=_;omega)
theorem b6N.sz {x y:LQ'} (h:b6N x y) {k:Nat} (hk:k<=x.length):rsz (zI x y k)<=4000000:=by
 have h1:=b3X (x:=x) (y:=y) (A:=20000) (B:=20000) (k:=k) fun i hi=>h.2.2 i (by omega)
 have h2:=h.2.1
 have:k*20001<=64*20001:=xw (by omega) (by omega)
 omega
def gI (p:dA):List Rat:=(OT p).map fun i=>aV i
def c4u (f:MQ) (p:dA):Rat:=zI (gI p) f.flatten 9
theorem b2A (p:dA):(gI p).length=9:=rfl
theorem a6t (p:dA) {i:Nat} (hi:i<9):aV ((OT p).getD i 0)=(gI p).getD i 0:=by
 unfold gI
 rw[jc,jc,xu,iy (show i<(OT p).length from hi)];rfl
set_option maxHeartbeats 4000000
theorem b0C (a b:Int):aV (a*b)=aV a*aV b:=uj a b
theorem b2C {K:Nat} {f:MQ} (hf:m33 K f) (p:dA):c4u f p=c4t f p:=by
 obtain⟨a,b,c,d,e,g,i,j,k,rfl⟩:=hf.form
 obtain⟨⟨x,y,_⟩,⟨u,v,_⟩,_⟩:=p
 change 0+aV (u*x)*a+aV (u*y)*b+aV (u*1)*c+aV (v*x)*d+aV (v*y)*e+aV (v*1)*g+aV (1*x)*i+aV (1*y)*j+aV (1*1)*k=0+aV u*(0+a*aV x+b*aV y+c*aV 1)+aV v*(0+d*aV x+e*aV y+g*aV 1)+aV 1*(0+i*aV x+j*aV y+k*aV 1)
 simp only[b0C]
 have h1:aV 1=1:=rfl
 rw[h1]
 grind
theorem OY {n:Int} (h:iH n=false):cdI n:=by
 unfold iH at h
 rw[bf,ah,ah] at h
 exact⟨by omega,by omega⟩
theorem b2u {l:List dA} (h:xA l=0):∀ p ∈ l,cdP p.1/\cdP p.2.1:=fun p hp=>by
 have h1:l.any RP=false:=by
  unfold xA at h
  cases e:l.any RP
  ·rfl
  ·rw[e] at h;exact absurd h (by decide)
 have h2:RP p=false:=by
  have:=Bl.mp h1 p hp
  simpa using this
 unfold RP at h2
 simp only[List.any_cons,List.any_nil,Bool.or_false,bf] at h2
 exact⟨⟨OY h2.1,OY h2.2.1⟩,OY h2.2.2.1,OY h2.2.2.2⟩
def gsq (xs:Nat->Int):Nat->Int
 | 0=>0
 | k+1=>((Int.gcd (gsq xs k) (xs k):Nat):Int)
def fsq (xs:Nat->Int):Nat->Int
 | 0=>0
 | k+1=>if fsq xs k=0 then xs k else fsq xs k
theorem PL {xs:Nat->Int} {K:Nat}:∀ k,(∀ j,j<k->isz (xs j)<=K)->isz (gsq xs k)<=K
 | 0,_=>by show isz 0<=K;rw[IZ];omega
 | k+1,h=>by
  have ih:=PL k (fun j hj=>h j (by omega))
  show isz ((Int.gcd (gsq xs k) (xs k):Nat):Int)<=K
  by_cases hx:xs k=0
  ·rw[hx,Int.gcd_zero_right]
   have:isz (((gsq xs k).natAbs:Nat):Int)=isz (gsq xs k):=by unfold isz;simp
   omega
  ·exact lC hx (h k (by omega))
theorem b0d {xs:Nat->Int} {j:Nat} (hj:xs j≠0):∀ k,j<k->gsq xs k≠0
 | 0,h=>by omega
 | k+1,h=>by
  show ((Int.gcd (gsq xs k) (xs k):Nat):Int)≠0
  intro e
  have e':Int.gcd (gsq xs k) (xs k)=0:=by omega
  rw[Int.gcd_eq_zero_iff] at e'
  by_cases hk:j=k
  ·subst hk;exact hj e'.2
  ·exact b0d hj k (by omega) e'.1
theorem a0e {xs:Nat->Int}:∀ k j,j<k->gsq xs k ∣ xs j
 | 0,j,h=>by omega
 | k+1,j,h=>by
  show ((Int.gcd (gsq xs k) (xs k):Nat):Int) ∣ xs j
  by_cases e:j=k
  ·subst e;exact Int.gcd_dvd_right ..
  ·exact Int.dvd_trans (Int.gcd_dvd_left ..) (a0e k j (by omega))
theorem a0o {x y:Int} (hy:y≠0) (h:y ∣ x):isz (x.fdiv y)<=isz x:=by
 obtain⟨t,rfl⟩:=h
 rw[Int.mul_fdiv_cancel_left _ hy]
 unfold isz
 rw[Int.natAbs_mul]
 exact BJ (Nat.le_mul_of_pos_left _ (by omega))
def kT (q:Nat->Rat):Nat->Int
 | 0=>1
 | k+1=>kT q k*((q k).den:Int).fdiv ((Int.gcd (kT q k) ((q k).den:Int):Nat):Int)
def a7G (q:Nat->Rat):Nat->Nat
 | 0=>1
 | k+1=>Nat.lcm (a7G q k) (q k).den
def a1s (D:Int) (q:Nat->Rat) (j:Nat):Int:=(q j).num*D.fdiv ((q j).den:Int)
def prG (xs:Nat->Int) (n:Nat):Int:=if fsq xs n<0 then -gsq xs n else gsq xs n
def prN (xs:Nat->Int) (n j:Nat):Int:=(xs j).fdiv (prG xs n)
theorem a0q (q:Nat->Rat):∀ k,kT q k=(a7G q k:Nat)
 | 0=>rfl
 | k+1=>by
  show kT q k*((q k).den:Int).fdiv ((Int.gcd (kT q k) ((q k).den:Int):Nat):Int)=((Nat.lcm (a7G q k) (q k).den:Nat):Int)
  rw[a0q q k,Int.gcd_natCast_natCast,<-Int.ofNat_fdiv,<-Int.natCast_mul,<-Nat.mul_div_assoc _ (Nat.gcd_dvd_right _ _)];rfl
theorem a2l (q:Nat->Rat):∀ k,0<a7G q k
 | 0=>Nat.one_pos
 | k+1=>Nat.lcm_pos (a2l q k) (q k).den_pos
theorem a2k {q:Nat->Rat}:∀ k j,j<k->(q j).den ∣ a7G q k
 | 0,j,h=>by omega
 | k+1,j,h=>by
  show (q j).den ∣ Nat.lcm (a7G q k) (q k).den
  by_cases e:j=k
  ·subst e;exact Nat.dvd_lcm_right _ _
  ·exact Nat.dvd_trans (a2k k j (by omega)) (Nat.dvd_lcm_left _ _)
theorem JB (q:Nat->Rat) (k:Nat):kT q k≠0:=by rw[a0q];have:=a2l q k;omega
theorem uO {q:Nat->Rat} {k j:Nat} (h:j<k):((q j).den:Int) ∣ kT q k:=by rw[a0q];exact Int.natCast_dvd_natCast.2 (a2k k j h)
theorem b7g (q:Nat->Rat) (k:Nat):((Int.gcd (kT q k) ((q k).den:Int):Nat):Int)≠0:=fun e=>by
 have e:Int.gcd (kT q k) ((q k).den:Int)=0:=by omega
 exact JB q k (Int.gcd_eq_zero_iff.1 e).1
theorem b7h {q:Nat->Rat} {K k:Nat} (h:rsz (q k)<=K):isz (((q k).den:Int).fdiv ((Int.gcd (kT q k) ((q k).den:Int):Nat):Int))<=K :=
 jl (a0o (b7g q k) (Int.gcd_dvd_right ..)) (jl (kP _) h)
theorem SV {q:Nat->Rat} {K n:Nat} (h:∀ k,k<n->rsz (q k)<=K):∀ k,k<=n->isz (kT q k)<=k*K+1
 | 0,_=>by show isz 1<=_;rw[show isz 1=1 by decide +kernel];omega
 | k+1,hk=>by
  have ih:=SV h k (by omega)
  have m:=gK (kT q k) (((q k).den:Int).fdiv ((Int.gcd (kT q k) ((q k).den:Int):Nat):Int))
  have d:=b7h (h k (by omega))
  show isz (kT q k*((q k).den:Int).fdiv ((Int.gcd (kT q k) ((q k).den:Int):Nat):Int))<=_
  rw[Ad]
  omega
theorem a9o {D:Int} {q:Nat->Rat} {j C:Nat} (hD:isz D<=C) (h:((q j).den:Int) ∣ D):isz (D.fdiv ((q j).den:Int))<=C :=
 jl (a0o (by have:=(q j).den_nz;omega) h) hD
theorem a1t {D:Int} {q:Nat->Rat} {j K C:Nat} (hD:isz D<=C) (h:((q j).den:Int) ∣ D) (hK:rsz (q j)<=K):isz (a1s D q j)<=K+C:=by
 have m:=gK (q j).num (D.fdiv ((q j).den:Int))
 have a:=nD (q j)
 have b:=a9o hD h
 unfold a1s;omega
theorem a4Z {D:Int} {q:Nat->Rat} {j:Nat} (h0:D≠0) (h:((q j).den:Int) ∣ D) (hq:q j≠0):a1s D q j≠0:=by
 intro e
 unfold a1s at e
 obtain⟨t,rfl⟩:=h
 have hd:((q j).den:Int)≠0:=by have:=(q j).den_nz;omega
 rw[Int.mul_fdiv_cancel_left _ hd] at e
 rcases Int.mul_eq_zero.1 e with e|e
 ·exact hq (Rat.num_eq_zero.1 e)
 ·exact h0 (by rw[e,Int.mul_zero])
theorem b5s {xs:Nat->Int} {n j:Nat} (hj:j<n):prG xs n ∣ xs j:=by
 unfold prG
 split
 ·exact Int.neg_dvd.2 (a0e n j hj)
 ·exact a0e n j hj
theorem b1R {xs:Nat->Int} {n j:Nat} (hj:j<n) (h:xs j≠0):prG xs n≠0:=by
 have:=b0d h n hj
 unfold prG
 split<;>omega
theorem b5t {xs:Nat->Int} {n K:Nat} (h:∀ j,j<n->isz (xs j)<=K):isz (prG xs n)<=K:=by
 unfold prG
 split
 ·rw[jS];exact PL n h
 ·exact PL n h
theorem b5u {xs:Nat->Int} {n j K:Nat} (hj:j<n) (h0:prG xs n≠0) (h:isz (xs j)<=K):isz (prN xs n j)<=K:=jl (a0o h0 (b5s hj)) h
theorem WX {t:Nat} {xs ys:Nat->Int} {n:Nat} (h:∀ j,j<n->ys j=(t:Int)*xs j):∀ k,k<=n->gsq ys k=(t:Int)*gsq xs k
 | 0,_=>by show (0:Int)=(t:Int)*0;rw[Int.mul_zero]
 | k+1,hk=>by
  show ((Int.gcd (gsq ys k) (ys k):Nat):Int)=(t:Int)*((Int.gcd (gsq xs k) (xs k):Nat):Int)
  rw[WX h k (by omega),h k (by omega),Int.gcd_mul_left,Int.natAbs_natCast,Int.natCast_mul]
theorem WT {t:Nat} (ht:0<t) {xs ys:Nat->Int} {n:Nat} (h:∀ j,j<n->ys j=(t:Int)*xs j):∀ k,k<=n->fsq ys k=(t:Int)*fsq xs k
 | 0,_=>by show (0:Int)=(t:Int)*0;rw[Int.mul_zero]
 | k+1,hk=>by
  show (if fsq ys k=0 then ys k else fsq ys k)=(t:Int)*(if fsq xs k=0 then xs k else fsq xs k)
  rw[WT ht h k (by omega),h k (by omega)]
  by_cases e:fsq xs k=0
  ·rw[jq e,jq (by rw[e,Int.mul_zero])]
  ·rw[ji e,ji (fun e2=>by rcases Int.mul_eq_zero.1 e2 with e2|e2<;>omega)]
theorem XY {t:Nat} (ht:0<t) {xs ys:Nat->Int} {n j:Nat} (h:∀ j,j<n->ys j=(t:Int)*xs j) (hj:j<n):prN ys n j=prN xs n j:=by
 have ht':(0:Int)<(t:Int):=by omega
 have e:prG ys n=(t:Int)*prG xs n:=by
  unfold prG
  rw[WX h n (ay n),WT ht h n (ay n)]
  by_cases e:fsq xs n<0
  ·rw[jq e,jq (Int.mul_neg_of_pos_of_neg ht' e),Int.mul_neg]
  ·rw[ji e,ji (fun e2=>by have:=Int.mul_nonneg (Int.le_of_lt ht') (show 0<=fsq xs n by omega);omega)]
 unfold prN
 rw[e,h j hj,Int.mul_fdiv_mul_of_pos _ _ ht']
def b1V (q:Nat->Rat) (n:Nat):List Int:=(List.range n).map (prN (a1s (kT q n) q) n)
set_option maxHeartbeats 1000000
def JQ (l:LQ'):Prop:=l.length<=64/\(∀ q ∈ l,rsz q<=1000000)/\∃ q ∈ l,q≠0
def lcN (l:LQ') (j:Nat):Int:=a1s (kT (lv l) l.length) (lv l) j
def yG (l:LQ'):List Int:=b1V (lv l) l.length
noncomputable def c5C:Ctr:=⟨[.list tQ],[.list tZ],fun x=>JQ x.1,fun x=>(yG x.1,())⟩
def prO (N:Nat->Int) (n k:Nat):List Int:=(List.range n).map fun j=>if j<k then prN N n j else N j
theorem vU {N:Nat->Int} {n k:Nat}:(prO N n k).length=n:=by unfold prO;simp
theorem TU {N:Nat->Int} {n k j:Nat} (h:j<n):(prO N n k).getD j 0=if j<k then prN N n j else N j:=by
 unfold prO
 rw[jc,xu,Dj h];rfl
theorem b7l {N:Nat->Int} {n:Nat}:(List.range n).map N=prO N n 0:=qh fun j _=>(ji (by omega)).symm
theorem b7m {N:Nat->Int} {n:Nat}:prO N n n=(List.range n).map (prN N n):=qh fun j hj=>jq (wu.1 hj)
theorem a6k {N:Nat->Int} {n k:Nat} (h:k<n):(prO N n k).set k (((prO N n k).getD k 0).fdiv (prG N n))=prO N n (k+1):=by
 rw[TU h,ji (by omega)]
 apply List.ext_getElem?
 intro j
 unfold prO
 rw[List.getElem?_set]
 by_cases e:k=j
 ·subst e
  rw[jq rfl,xu,Dj h,jq (by simpa using h)]
  show some _=some (if k<k+1 then prN N n k else N k)
  rw[jq (by omega)];rfl
 ·rw[ji e,xu,xu]
  by_cases hj:j<n
  ·rw[Dj hj]
   show some (if j<k then prN N n j else N j)=some (if j<k+1 then prN N n j else N j)
   by_cases h2:j<k
   ·rw[jq h2,jq (by omega)]
   ·rw[ji h2,ji (by omega)]
  ·rw[xk (by simpa using hj)];rfl
theorem JQ.at {l:LQ'} (h:JQ l):(∀ k,k<l.length->rsz (lv l k)<=1000000)/\∃ j,j<l.length/\lv l j≠0:=by
 refine⟨fun k hk=>bV h.2.1 hk,?_⟩
 obtain⟨q,hq,hz⟩:=h.2.2
 obtain⟨j,hj,rfl⟩:=Bh hq
 exact⟨j,hj,by show l.getD j 0≠0;rw[jc,iy hj];exact hz⟩
theorem c2j {x:Int}:(x.sign=0)=(x=0):=propext Int.sign_eq_zero_iff_zero
theorem a5i (q:Rat):((q.den:Nat):Int)≠0:=by have:=q.den_nz;omega
theorem b5A:aI Tryz.prog 149 c5C:=by
 refine aJ ((((((nil0.ad YX).ad IU).ad wW).ad AX).ad rF).ad SK) ⟨[3,5,6,7,8,11,12,14,15,16,18,20],[],[]⟩ Tryz.func149 rfl (by decide) (fun x=>[.inv {k:Nat // k<=(show LQ' from x.1).length} (fun k=>[(24,.val tI (k.1:Int))]) (fun k=>[(3,.box [⟨tZ,kT (lv (show LQ' from x.1)) k.1⟩])]) (fun k=>(show LQ' from x.1).length-k.1) ⟨0,by omega⟩ (fun _=>[]),
  .inv {k:Nat // k<=(show LQ' from x.1).length} (fun k=>[(46,.val tI (k.1:Int)),(10,.own 64 0),(64,.any)]) (fun k=>[(64,.row 45 tZ ((List.range k.1).map (lcN (show LQ' from x.1))) 0),(3,.box [⟨tZ,kT (lv (show LQ' from x.1)) (show LQ' from x.1).length⟩]),(11,.box [⟨tZ,gsq (lcN (show LQ' from x.1)) k.1⟩]),(12,.box [⟨tZ,fsq (lcN (show LQ' from x.1)) k.1⟩])]) (fun k=>(show LQ' from x.1).length-k.1) ⟨0,by omega⟩ (fun _=>[]),
  .inv {k:Nat // k<=(show LQ' from x.1).length} (fun k=>[(81,.val tI (k.1:Int))]) (fun k=>[(64,.row 45 tZ (prO (lcN (show LQ' from x.1)) (show LQ' from x.1).length k.1) 0),(11,.box [⟨tZ,prG (lcN (show LQ' from x.1)) (show LQ' from x.1).length⟩])]) (fun k=>(show LQ' from x.1).length-k.1) ⟨0,by omega⟩ (fun _=>[])]) (fun x hp=>?_)
 obtain⟨l,u⟩:=x
 change List Rat at l
 refine aT (let A₀:=(kT (lv l) l.length);let A₁:=(prG (lcN l) l.length);(bU 1/\True)/\(asT Int 0=0/\1=kT (lv l) 0/\True)/\∀ (i:{ k:Nat // k<=List.length l }),let aK:=(kT (lv l) (aA i));let A₂:=(Int.gcd aK (aB (Rat.den (List.getD l (aB (aA i)).toNat 0))));asT Bool true=true/\ifB (decide (aB (aA i)<aB l.length)) ((0<=aB (aA i)/\aB (aA i)<aB l.length/\True)/\((isz aK<=1000000000/\isz (aB (Rat.den (List.getD l (aB (aA i)).toNat 0)))<=1000000000)/\True)/\((isz (aB (Rat.den (List.getD l (aB (aA i)).toNat 0)))<=1000000000/\isz (aB A₂)<=1000000000/\aB A₂≠0)/\True)/\((isz aK<=1000000000/\isz (Int.fdiv (aB (Rat.den (List.getD l (aB (aA i)).toNat 0))) (aB A₂))<=1000000000)/\True)/\∃ (i':{ k:Nat // k<=List.length l }),List.length l-aA i'<List.length l-aA i/\IntKind.wrap IntKind.i64 (aB (aA i)+1)=aB (aA i')/\kT (lv l) (aA i)*Int.fdiv (aB (Rat.den (List.getD l (aB (aA i)).toNat 0))) (aB A₂)=kT (lv l) (aA i')/\True) ((asT Int 0=0/\(True/\asT (List Int) (aF Int)=aF Int)/\(asT (List Int) (aF Int)=aF Int/\0=0/\asT Bool true=true)/\kT (lv l) (aA i)=kT (lv l) l.length/\0=gsq (lcN l) 0/\0=fsq (lcN l) 0/\True)/\∀ (i:{ k:Nat // k<=List.length l }),let aQ:=(List.getD l (aB (aA i)).toNat 0);let dF:=(Rat.num aQ*Int.fdiv A₀ (aB (Rat.den aQ)));let dL:=(List.map (lcN l) (List.range (aA i)));let dH:=(gsq (lcN l) (aA i));asT Bool true=true/\ifB (decide (aB (aA i)<aB l.length)) ((0<=aB (aA i)/\aB (aA i)<aB l.length/\True)/\((isz A₀<=1000000000/\isz (aB (Rat.den aQ))<=1000000000/\aB (Rat.den aQ)≠0)/\True)/\((isz (Rat.num aQ)<=1000000000/\isz (Int.fdiv A₀ (aB (Rat.den aQ)))<=1000000000)/\True)/\(List.length dL+List.length (Rat.num aQ*Int.fdiv A₀ (aB (Rat.den aQ))::aF Int)<=1000000000/\True)/\((isz dH<=1000000000/\isz dF<=1000000000)/\True)/\(True/\True)/\ifB (Int.sign (fsq (lcN l) (aA i))==0) (∃ (i':{ k:Nat // k<=List.length l }),List.length l-aA i'<List.length l-aA i/\IntKind.wrap IntKind.i64 (aB (aA i)+1)=aB (aA i')/\List.map (lcN l) (List.range (aA i))++Rat.num aQ*Int.fdiv A₀ (aB (Rat.den aQ))::aF Int=List.map (lcN l) (List.range (aA i'))/\kT (lv l) l.length=kT (lv l) l.length/\aB (Int.gcd dH dF)=gsq (lcN l) (aA i')/\Rat.num aQ*Int.fdiv A₀ (aB (Rat.den aQ))=fsq (lcN l) (aA i')/\True) (∃ (i':{ k:Nat // k<=List.length l }),List.length l-aA i'<List.length l-aA i/\IntKind.wrap IntKind.i64 (aB (aA i)+1)=aB (aA i')/\List.map (lcN l) (List.range (aA i))++Rat.num aQ*Int.fdiv A₀ (aB (Rat.den aQ))::aF Int=List.map (lcN l) (List.range (aA i'))/\kT (lv l) l.length=kT (lv l) l.length/\aB (Int.gcd dH dF)=gsq (lcN l) (aA i')/\fsq (lcN l) (aA i)=fsq (lcN l) (aA i')/\True)) ((True/\True)/\ifB (decide (Int.sign (fsq (lcN l) (aA i))<0)) ((isz dH<=1000000000/\True)/\(asT Int 0=0/\List.map (lcN l) (List.range (aA i))=prO (lcN l) l.length 0/\-gsq (lcN l) (aA i)=prG (lcN l) l.length/\True)/\∀ (i_1:{ k:Nat // k<=List.length l }),let fB:=(prO (lcN l) l.length (aA i_1));let fU:=(aB (aA i_1)).toNat;asT Bool true=true/\ifB (decide (aB (aA i_1)<aB dL.length)) ((0<=aB (aA i_1)/\aB (aA i_1)<aB fB.length/\Int.toNat (aB (aA i_1))<List.length fB/\True)/\((isz (List.getD fB fU 0)<=1000000000/\isz A₁<=1000000000/\prG (lcN l) l.length≠0)/\0<=aB (aA i_1)/\aB (aA i_1)<aB fB.length/\Int.toNat (aB (aA i_1))<List.length fB/\True)/\∃ (i':{ k:Nat // k<=List.length l }),List.length l-aA i'<List.length l-aA i_1/\IntKind.wrap IntKind.i64 (aB (aA i_1)+1)=aB (aA i')/\List.set fB fU (Int.fdiv (List.getD fB fU 0) A₁)=prO (lcN l) l.length (aA i')/\prG (lcN l) l.length=prG (lcN l) l.length/\True) (True/\prO (lcN l) l.length (aA i_1)=yG l/\True)) ((asT Int 0=0/\List.map (lcN l) (List.range (aA i))=prO (lcN l) l.length 0/\gsq (lcN l) (aA i)=prG (lcN l) l.length/\True)/\∀ (i_1:{ k:Nat // k<=List.length l }),let fK:=(prO (lcN l) l.length (aA i_1));let kH:=(aB (aA i_1)).toNat;asT Bool true=true/\ifB (decide (aB (aA i_1)<aB dL.length)) ((0<=aB (aA i_1)/\aB (aA i_1)<aB fK.length/\Int.toNat (aB (aA i_1))<List.length fK/\True)/\((isz (List.getD fK kH 0)<=1000000000/\isz A₁<=1000000000/\prG (lcN l) l.length≠0)/\0<=aB (aA i_1)/\aB (aA i_1)<aB fK.length/\Int.toNat (aB (aA i_1))<List.length fK/\True)/\∃ (i':{ k:Nat // k<=List.length l }),List.length l-aA i'<List.length l-aA i_1/\IntKind.wrap IntKind.i64 (aB (aA i_1)+1)=aB (aA i')/\List.set fK kH (Int.fdiv (List.getD fK kH 0) A₁)=prO (lcN l) l.length (aA i')/\prG (lcN l) l.length=prG (lcN l) l.length/\True) (True/\prO (lcN l) l.length (aA i_1)=yG l/\True))))) (by kernel_rfl) ?_
 have hZ:(⟨false,0,[],[]⟩:aH)=bC:=rfl
 try simp only[aC,aj,ah]
 try dsimp only[aB,asT,aA,aF,Ty.den,Lf.den] at *
 try simp only[hZ,Int.toNat_natCast,aC,aj,ah,jg,jf,gy,bg]
 try simp only[bT,bP,List.all_cons,List.all_nil,jh,dw,ig,je,jy,ne_eq,au,bn,dh,eu,jd,oh,jo,oq,jg,jf,iw,bf,List.length_cons,List.length_nil]
 have hp:JQ l:=hp
 obtain⟨hK,j0,hj0,hx0⟩:=hp.at
 have hn:=hp.1
 have hv:∀ j,l.getD j 0=lv l j:=fun _=>rfl
 simp only[hv,vw,bg,c2j] at *
 have hL:∀ k,k<=l.length->isz (kT (lv l) k)<=64000001:=fun k hk=>jl (SV hK k hk) (by omega)
 have hd:∀ k,k<l.length->isz ((lv l k).den:Int)<=1000000:=fun k hk=>jl (kP _) (hK k hk)
 have hm:∀ k,k<l.length->isz (lv l k).num<=1000000:=fun k hk=>jl (nD _) (hK k hk)
 have hN:∀ j,j<l.length->isz (lcN l j)<=65000001:=fun j hj=>jl (a1t (hL _ (ay _)) (uO hj) (hK j hj)) (by omega)
 have hne:prG (lcN l) l.length≠0:=b1R hj0 (a4Z (JB _ _) (uO hj0) hx0)
 have hG:isz (prG (lcN l) l.length)<=65000001:=b5t hN
 have hg:∀ k,k<=l.length->isz (gsq (lcN l) k)<=65000001:=fun k hk=>PL k fun j hj=>hN j (by omega)
 have hN2:∀ j,(lv l j).num*(kT (lv l) l.length).fdiv ((lv l j).den:Int)=lcN l j:=fun _=>rfl
 simp only[hN2]
 refine⟨⟨by omega,by omega⟩,rfl,fun i=>⟨fun h1=>?_,fun h1=>⟨⟨by rw[show i.1=l.length by have:=i.2;omega],rfl,rfl⟩,fun i2=>⟨fun h2=>?_,fun h2=>?_⟩⟩⟩⟩
 ·have hi:i.1<l.length:=by omega
  exact⟨⟨by omega,h1⟩,⟨jl (hL _ i.2) (by omega),jl (hd _ hi) (by omega)⟩,⟨jl (hd _ hi) (by omega),jl (lC (a5i _) (hd _ hi)) (by omega),b7g _ _⟩,⟨jl (hL _ i.2) (by omega),jl (b7h (hK _ hi)) (by omega)⟩,⟨i.1+1,by omega⟩,by simp only;omega,by rw[aN (by omega) (by omega)];rfl,rfl⟩
 ·have hi:i2.1<l.length:=by omega
  refine⟨⟨by omega,h2⟩,⟨jl (hL _ (ay _)) (by omega),jl (hd _ hi) (by omega),a5i _⟩,⟨jl (hm _ hi) (by omega),jl (a9o (hL _ (ay _)) (uO hi)) (by omega)⟩,by omega,⟨jl (hg _ i2.2) (by omega),jl (hN _ hi) (by omega)⟩,fun h3=>⟨⟨i2.1+1,by omega⟩,by simp only;omega,by rw[aN (by omega) (by omega)];rfl,?_,rfl,?_⟩,fun h3=>⟨⟨i2.1+1,by omega⟩,by simp only;omega,by rw[aN (by omega) (by omega)];rfl,?_,rfl,?_⟩⟩
  ·rw[Bq,List.map_append];rfl
  ·exact(jq h3).symm
  ·rw[Bq,List.map_append];rfl
  ·exact(ji h3).symm
 ·have hi2:i2.1=l.length:=by have:=i2.2;omega
  rw[hi2]
  refine⟨fun h3=>⟨jl (hg _ (ay _)) (by omega),?_⟩,fun h3=>?_⟩
  ·refine⟨⟨b7l,(jq (Int.sign_neg_iff.1 h3)).symm⟩,fun i3=>⟨fun h4=>?_,fun h4=>?_⟩⟩
   ·have hi3:i3.1<l.length:=by omega
    rw[TU hi3,ji (by omega)]
    refine⟨⟨by omega,by rw[vU];omega,by rw[vU];exact hi3⟩,⟨⟨jl (hN _ hi3) (by omega),jl hG (by omega),hne⟩,by omega,by rw[vU];omega,by rw[vU];exact hi3⟩,⟨i3.1+1,by omega⟩,by simp only;omega,by rw[aN (by omega) (by omega)];rfl,?_⟩
    have:=a6k (N:=lcN l) hi3
    rw[TU hi3,ji (by omega)] at this
    exact this
   ·rw[show i3.1=l.length by have:=i3.2;omega,b7m];rfl
  ·refine⟨⟨b7l,(ji (fun e=>h3 (Int.sign_neg_iff.2 e))).symm⟩,fun i3=>⟨fun h4=>?_,fun h4=>?_⟩⟩
   ·have hi3:i3.1<l.length:=by omega
    rw[TU hi3,ji (by omega)]
    refine⟨⟨by omega,by rw[vU];omega,by rw[vU];exact hi3⟩,⟨⟨jl (hN _ hi3) (by omega),jl hG (by omega),hne⟩,by omega,by rw[vU];omega,by rw[vU];exact hi3⟩,⟨i3.1+1,by omega⟩,by simp only;omega,by rw[aN (by omega) (by omega)];rfl,?_⟩
    have:=a6k (N:=lcN l) hi3
    rw[TU hi3,ji (by omega)] at this
    exact this
   ·rw[show i3.1=l.length by have:=i3.2;omega,b7m];rfl
theorem a2E (l:LQ'):(yG l).length=l.length:=by unfold yG b1V;simp
theorem a6l {l:LQ'} (h:JQ l):∀ n ∈ yG l,isz n<=65000001:=fun n hn=>by
 obtain⟨hK,j0,hj0,hx0⟩:=h.at
 have h64:=h.1
 have hN:∀ j,j<l.length->isz (lcN l j)<=65000001:=fun j hj=>jl (a1t (jl (SV hK _ (ay _)) (show _<=64000001 by omega)) (uO hj) (hK j hj)) (by omega)
 obtain⟨j,hj,rfl⟩:=ug.1 hn
 have hj:=wu.1 hj
 exact b5u hj (b1R hj0 (a4Z (JB _ _) (uO hj0) hx0)) (hN j hj)
theorem whT {P:List Int} {i:Nat} (hi:i<P.length):(P.map fun n=>aV n).take i++[aV (P.getD i 0)]=(P.map fun n=>aV n).take (i+1):=by
 rw[Ai,xu,iy hi,jc,iy hi];rfl
theorem a1y (n:Int):Rat.divInt n 1=aV n:=by
 rw[show (1:Int)=((1:Nat):Int) from rfl,Rat.divInt_ofNat];exact Rat.mkRat_one n
noncomputable def c3q:Ctr:=⟨[tZ],[tQ],fun x=>isz x.1<=390000000,fun x=>(aV x.1,())⟩
theorem b2d:aI Tryz.prog 150 c3q:=by
 refine aJ ((nil0.ad YX).ad a0d) ⟨[2,3],[],[]⟩ Tryz.func150 rfl (by decide) (fun x=>[]) (fun x hp=>?_)
 obtain⟨n,u⟩:=x
 change Int at n
 refine aT ((bU 1/\(isz n<=1000000000/\isz 1<=1000000000)/\True)/\(asT Bool true=true/\True)/\Rat.divInt n 1=aV n/\True) (by kernel_rfl) ?_
 have hZ:(⟨false,0,[],[]⟩:aH)=bC:=rfl
 try simp only[aC,aj,ah]
 try dsimp only[aB,asT,aA,aF,Ty.den,Lf.den] at *
 try simp only[hZ,Int.toNat_natCast,aC,aj,ah,jg,jf,gy,bg]
 try simp only[bT,bP,List.all_cons,List.all_nil,jh,dw,ig,je,jy,ne_eq,au,bn,dh,eu,jd,oh,jo,oq,jg,jf,iw,bf,List.length_cons,List.length_nil]
 have hp:isz n<=390000000:=hp
 exact⟨⟨⟨by omega,by omega⟩,by omega,by rw[show isz 1=1 by decide +kernel];omega⟩,(a1y n)⟩
theorem i9T {l:LQ'} (h:l.length=9) {i:Nat} (h9:i<=9) (hi:¬ (i:Int)<((yG l).length:Int)):(((yG l).map fun n=>aV n).take i)=(yG l).map fun n=>aV n:=jv (by rw[vw];omega)
def b7O {α:Type} (l:List α):List (List α):=[l.take 3,(l.take 6).drop 3,l.drop 6]
def vY (l:LQ'):MQ:=b7O ((yG l).map fun n=>aV n)
noncomputable def c2I:Ctr:=⟨[.list tQ],[tM],fun x=>JQ x.1/\(show LQ' from x.1).length=9,fun x=>(vY x.1,())⟩
theorem a1o:aI Tryz.prog 62 c2I:=by
 refine aJ ((nil0.ad b5A).ad b2d) ⟨[5],[],[]⟩ Tryz.func62 rfl (by decide) (fun x=>[.inv {k:Nat // k<=9} (fun k=>[(9,.val tI (k.1:Int)),(3,.own 16 0),(16,.any)]) (fun k=>[(16,.row 47 tQ (((yG (show LQ' from x.1)).map fun n=>aV n).take k.1) 0)]) (fun k=>9-k.1) ⟨0,by omega⟩ (fun _=>[])]) (fun x hp=>?_)
 obtain⟨l,u⟩:=x
 change List Rat at l
 refine aT (let A₀:=(List.map (fun(n:Int)=>aV n) (yG l));(JQ l/\True)/\(asT Int 0=0/\(True/\asT (List Rat) (aF Rat)=aF Rat)/\(asT (List Rat) (aF Rat)=aF Rat/\0=0/\asT Bool true=true)/\True)/\∀ (i:{ k:Nat // k<=9 }),let A₁:=(List.take (aA i) A₀);let A₂:=(List.getD (yG l) (aB (aA i)).toNat 0);asT Bool true=true/\ifB (decide (aB (aA i)<aB (yG l).length)) ((0<=aB (aA i)/\aB (aA i)<aB (yG l).length/\True)/\(isz A₂<=390000000/\List.length A₁+List.length (aV A₂::aF Rat)<=1000000000/\True)/\∃ (i':{ k:Nat // k<=9 }),9-aA i'<9-aA i/\IntKind.wrap IntKind.i64 (aB (aA i)+1)=aB (aA i')/\List.take (aA i) A₀++aV A₂::aF Rat=List.take (aA i') A₀/\True) ((asT Int 0<=0/\asT Int 0<=3/\asT Int 3<=3/\3<=aB A₁.length/\asT Int 0<=3/\asT Int 3<=6/\asT Int 6<=6/\6<=aB A₁.length/\asT Int 0<=6/\6<=aB A₁.length/\aB A₁.length<=aB A₁.length/\True)/\True/\List.drop 0 (List.take 3 A₁)::List.drop 3 (List.take 6 A₁)::List.drop 6 (List.take (aB A₁.length).toNat A₁)::aF (List Rat)=vY l/\True)) (by kernel_rfl) ?_
 have hZ:(⟨false,0,[],[]⟩:aH)=bC:=rfl
 try simp only[aC,aj,ah]
 try dsimp only[aB,asT,aA,aF,Ty.den,Lf.den] at *
 try simp only[hZ,Int.toNat_natCast,aC,aj,ah,jg,jf,gy,bg]
 try simp only[bT,bP,List.all_cons,List.all_nil,jh,dw,ig,je,jy,ne_eq,au,bn,dh,eu,jd,oh,jo,oq,jg,jf,iw,bf,List.length_cons,List.length_nil]
 obtain⟨hp,h9⟩:JQ l/\l.length=9:=hp
 have hl:=a2E l
 refine⟨hp,fun i=>⟨fun h1=>⟨⟨by omega,h1⟩,⟨jl (bV (a6l hp) (by omega)) (by omega),by rw[ny];omega⟩,⟨i.1+1,by omega⟩,by simp only;omega,by rw[aN (by omega) (by omega)];rfl,whT (by omega)⟩,fun h1=>?_⟩⟩
 rw[i9T h9 i.2 h1,vw,hl,h9]
 refine⟨by omega,?_⟩
 unfold vY b7O
 rw[List.drop_zero,jv (i:=9) (by rw[vw];omega)]
end Go.Proofs.YtbkocjmmbkifjaaGreat
