/-
  Lemmas for the theorem vmatrices28_holds, part 31 of 33.
-/
import Derived.Test.YtbkocjmmbkifjaaGreatQm30
namespace Go.Proofs.YtbkocjmmbkifjaaGreat
open Go Go.RowKit
set_option maxRecDepth 100000
set_option maxHeartbeats 4000000
set_option linter.unusedVariables false
set_option linter.unusedSimpArgs false
theorem a9m (a b:Int):dR (a*b)=dR a*dR b:=yh a b
theorem a2h {f:MQ} (hf:m33 100 f) (p:dZ):GZ f p=pU f p:=by
 obtain⟨a,b,c,d,e,g,i,j,k,rfl⟩:=hf.form
 obtain⟨⟨x,y,_⟩,⟨u,v,_⟩,_⟩:=p
 change 0+dR (u*x)*a+dR (u*y)*b+dR (u*1)*c+dR (v*x)*d+dR (v*y)*e+dR (v*1)*g+dR (1*x)*i+dR (1*y)*j+dR (1*1)*k=0+dR u*(0+a*dR x+b*dR y+c*dR 1)+dR v*(0+d*dR x+e*dR y+g*dR 1)+dR 1*(0+i*dR x+j*dR y+k*dR 1)
 simp only[a9m]
 have h1:dR 1=1:=rfl
 rw[h1]
 grind
theorem NG {f:MQ} (hf:m33 100 f) (p:EN) {i:Nat} (hi:i<3):(mvL f (fP p)).getD i 0=fG (f.getD i []) (fP p) 3:=b4I hf.1 hi
theorem b1k {f:MQ} (hf:m33 100 f) (p:dZ):a2s f p=yJ f p:=by
 have e:SQ f p=qO f p:=by
  unfold SQ qO
  rw[NG hf p.1 (i:=0) (by omega),NG hf p.1 (i:=1) (by omega),NG hf.tr p.2.1 (i:=0) (by omega),NG hf.tr p.2.1 (i:=1) (by omega)]
 unfold a2s yJ a7A UN
 rw[e,a2h hf]
def lq8 (l:LR):LQ':=List.map (fun q:aG=>q.x) l
def mq8 (a:MR):MQ:=List.map (fun r:LR=>lq8 r) a
theorem IY {f:MR} (hs:uG f) (h:vM f=true):m33 100 (mq8 f)/\∀ r ∈ f,∀ q ∈ r,q.ok=true:=by
 rw[NZ,aj,aj,ay] at h
 obtain⟨⟨h1,h2⟩,_⟩:=h
 have h3:∀ r ∈ f,r.length=3/\∀ q ∈ r,q.ok=true:=fun r hr=>vV.mp (vg.mp h2 r hr)
 have hm:isM (mq8 f) 3 3:=⟨by unfold mq8;rw[xw];exact h1,fun r hr=>by
  obtain⟨s,hs,rfl⟩:=uj.mp hr
  unfold lq8;rw[xw];exact(h3 s hs).1,by omega,by omega,by omega,by omega⟩
 refine⟨⟨hm,fun i hi j hj=>?_⟩,fun r hr=>(h3 r hr).2⟩
 rw[hm.len] at hi
 rw[hm.wd] at hj
 have hr:f.getD i [] ∈ f:=rQ (by omega)
 have hl:=(h3 _ hr).1
 have hq:(f.getD i []).getD j bM ∈ f.getD i []:=rQ (by omega)
 have e:ent (mq8 f) i j=((f.getD i []).getD j bM).x:=by
  show ((mq8 f).getD i []).getD j 0=_
  unfold mq8 lq8
  rw[dn (l:=List.map _ f),tq,dw (by omega),dn (l:=f),dw (by omega)]
  have hl2:(f[i]'(by omega)).length=3:=by rw[dn,dw (by omega)] at hl;exact hl
  show (List.map (fun q:aG=>q.x) f[i]).getD j 0=(f[i].getD j bM).x
  rw[dn,tq,dn,dw (by omega)];rfl
 rw[e]
 exact dh (((hs.2 _ hr).2 _ hq).2.2 ((h3 _ hr).2 _ hq)) (by omega)
theorem b9m {f:MQ} (hf:m33 100 f) {p:dZ} (h1:cdP p.1) (h2:cdP p.2.1):rsz (yJ f p).1.x<=20000/\((yJ f p).2.1=0->(yJ f p).1.ok=true):=by
 unfold yJ
 by_cases h0:UN f p=0
 ·rw[jv h0]
  exact⟨by show rsz 0<=_;rw[show rsz 0=1 by decide +kernel];omega,fun h=>absurd h (by decide)⟩
 ·rw[jq h0]
  refine⟨?_,fun _=>rfl⟩
  show rsz (pU f p*pU f p / UN f p)<=_
  have b1:rsz (pU f p)<=4000:=dh (EW (A:=2) (B:=1000) fun j hj=>⟨aV (BX h2) (by rw[lW];exact hj),aV (zG hf h1) (by rw[pV hf];exact hj)⟩) (by omega)
  have s4:∀ q ∈ qO f p,rsz q<=1000:=fun q hq=>by
   have sa:=zG hf h1
   have sb:=zG hf.tr h2
   have la:=pV hf p.1
   have lb:=pV hf.tr p.2.1
   simp only[qO,qm,Bz,or_false] at hq
   rcases hq with rfl|rfl|rfl|rfl
   ·exact aV sa (by omega)
   ·exact aV sa (by omega)
   ·exact aV sb (by omega)
   ·exact aV sb (by omega)
  have b2:rsz (UN f p)<=9000:=dh (EW (A:=1000) (B:=1000) fun j hj=>⟨aV s4 hj,aV s4 hj⟩) (by omega)
  have b3:=b3F (pU f p*pU f p) (UN f p) h0
  have b4:=oD (pU f p) (pU f p)
  omega
theorem MW {n:Int} (h:oJ n=false):cdI n:=by
 unfold oJ at h
 rw[iy,ak,ak] at h
 exact⟨by omega,by omega⟩
theorem a3F {l:List dZ} (h:rJ l=0):∀ p ∈ l,cdP p.1/\cdP p.2.1:=fun p hp=>by
 have h1:l.any yH=false:=by
  unfold rJ at h
  cases e:l.any yH
  ·rfl
  ·rw[e] at h;exact absurd h (by decide)
 have h2:yH p=false:=by
  have:=Bh.mp h1 p hp
  simpa using this
 unfold yH at h2
 simp only[List.any_cons,List.any_nil,Bool.or_false,iy] at h2
 exact⟨⟨MW h2.1,MW h2.2.1⟩,MW h2.2.2.1,MW h2.2.2.2⟩
def gsq (xs:Nat->Int):Nat->Int
 | 0=>0
 | k+1=>((Int.gcd (gsq xs k) (xs k):Nat):Int)
def fsq (xs:Nat->Int):Nat->Int
 | 0=>0
 | k+1=>if fsq xs k=0 then xs k else fsq xs k
theorem FI {xs:Nat->Int} {K:Nat}:∀ k,(∀ j,j<k->isz (xs j)<=K)->isz (gsq xs k)<=K
 | 0,_=>by show isz 0<=K;rw[FV];omega
 | k+1,h=>by
  have ih:=FI k (fun j hj=>h j (by omega))
  show isz ((Int.gcd (gsq xs k) (xs k):Nat):Int)<=K
  by_cases hx:xs k=0
  ·rw[hx,Int.gcd_zero_right]
   have:isz (((gsq xs k).natAbs:Nat):Int)=isz (gsq xs k):=by unfold isz;simp
   omega
  ·exact mP hx (h k (by omega))
theorem a8L {xs:Nat->Int} {j:Nat} (hj:xs j≠0):∀ k,j<k->gsq xs k≠0
 | 0,h=>by omega
 | k+1,h=>by
  show ((Int.gcd (gsq xs k) (xs k):Nat):Int)≠0
  intro e
  have e':Int.gcd (gsq xs k) (xs k)=0:=by omega
  rw[Int.gcd_eq_zero_iff] at e'
  by_cases hk:j=k
  ·subst hk;exact hj e'.2
  ·exact a8L hj k (by omega) e'.1
theorem YZ {xs:Nat->Int}:∀ k j,j<k->gsq xs k ∣ xs j
 | 0,j,h=>by omega
 | k+1,j,h=>by
  show ((Int.gcd (gsq xs k) (xs k):Nat):Int) ∣ xs j
  by_cases e:j=k
  ·subst e;exact Int.gcd_dvd_right ..
  ·exact Int.dvd_trans (Int.gcd_dvd_left ..) (YZ k j (by omega))
theorem ZO {x y:Int} (hy:y≠0) (h:y ∣ x):isz (x.fdiv y)<=isz x:=by
 obtain⟨t,rfl⟩:=h
 rw[Int.mul_fdiv_cancel_left _ hy]
 unfold isz
 rw[Int.natAbs_mul]
 exact zN (Nat.le_mul_of_pos_left _ (by omega))
def lQ (q:Nat->Rat):Nat->Int
 | 0=>1
 | k+1=>lQ q k*((q k).den:Int).fdiv ((Int.gcd (lQ q k) ((q k).den:Int):Nat):Int)
def qV (q:Nat->Rat):Nat->Int
 | 0=>1
 | k+1=>qV q k*((q k).den:Int)
def a1J (q:Nat->Rat):Nat->Nat
 | 0=>1
 | k+1=>Nat.lcm (a1J q k) (q k).den
def YM (D:Int) (q:Nat->Rat) (j:Nat):Int:=(q j).num*D.fdiv ((q j).den:Int)
def prG (xs:Nat->Int) (n:Nat):Int:=if fsq xs n<0 then -gsq xs n else gsq xs n
def prN (xs:Nat->Int) (n j:Nat):Int:=(xs j).fdiv (prG xs n)
theorem NI (q:Nat->Rat):∀ k,lQ q k=(a1J q k:Nat)
 | 0=>rfl
 | k+1=>by
  show lQ q k*((q k).den:Int).fdiv ((Int.gcd (lQ q k) ((q k).den:Int):Nat):Int)=((Nat.lcm (a1J q k) (q k).den:Nat):Int)
  rw[NI q k,Int.gcd_natCast_natCast,<-Int.ofNat_fdiv,<-Int.natCast_mul,<-Nat.mul_div_assoc _ (Nat.gcd_dvd_right _ _)];rfl
theorem QK (q:Nat->Rat):∀ k,0<a1J q k
 | 0=>Nat.one_pos
 | k+1=>Nat.lcm_pos (QK q k) (q k).den_pos
theorem QJ {q:Nat->Rat}:∀ k j,j<k->(q j).den ∣ a1J q k
 | 0,j,h=>by omega
 | k+1,j,h=>by
  show (q j).den ∣ Nat.lcm (a1J q k) (q k).den
  by_cases e:j=k
  ·subst e;exact Nat.dvd_lcm_right _ _
  ·exact Nat.dvd_trans (QJ k j (by omega)) (Nat.dvd_lcm_left _ _)
theorem a1K {q:Nat->Rat} {D:Nat}:∀ k,(∀ j,j<k->(q j).den ∣ D)->a1J q k ∣ D
 | 0,_=>Nat.one_dvd _
 | k+1,h=>Nat.lcm_dvd (a1K k fun j hj=>h j (by omega)) (h k (by omega))
theorem ZT (q:Nat->Rat) (k:Nat):lQ q k≠0:=by rw[NI];have:=QK q k;omega
theorem zJ {q:Nat->Rat} {k j:Nat} (h:j<k):((q j).den:Int) ∣ lQ q k:=by rw[NI];exact Int.natCast_dvd_natCast.2 (QJ k j h)
def mulN (q:Nat->Rat):Nat->Nat
 | 0=>1
 | k+1=>mulN q k*(q k).den
theorem NP (q:Nat->Rat):∀ k,qV q k=(mulN q k:Nat)
 | 0=>rfl
 | k+1=>by
  show qV q k*((q k).den:Int)=((mulN q k*(q k).den:Nat):Int)
  rw[NP q k,Int.natCast_mul]
theorem RG (q:Nat->Rat):∀ k,0<mulN q k
 | 0=>Nat.one_pos
 | k+1=>Nat.mul_pos (RG q k) (q k).den_pos
theorem RF {q:Nat->Rat}:∀ k j,j<k->(q j).den ∣ mulN q k
 | 0,j,h=>by omega
 | k+1,j,h=>by
  show (q j).den ∣ mulN q k*(q k).den
  by_cases e:j=k
  ·subst e;exact Nat.dvd_mul_left _ _
  ·exact Nat.dvd_trans (RF k j (by omega)) (Nat.dvd_mul_right _ _)
theorem b2T (q:Nat->Rat) (k:Nat):qV q k≠0:=by rw[NP];have:=RG q k;omega
theorem RD {q:Nat->Rat} {k j:Nat} (h:j<k):((q j).den:Int) ∣ qV q k:=by rw[NP];exact Int.natCast_dvd_natCast.2 (RF k j h)
theorem a1S {q:Nat->Rat} {K n:Nat} (h:∀ k,k<n->rsz (q k)<=K):∀ k,k<=n->isz (qV q k)<=k*K+1
 | 0,_=>by show isz 1<=_;rw[show isz 1=1 by decide +kernel];omega
 | k+1,hk=>by
  have ih:=a1S h k (by omega)
  have m:=dH (qV q k) ((q k).den:Int)
  have d:=dG (q k)
  have:=h k (by omega)
  show isz (qV q k*((q k).den:Int))<=_
  rw[yx]
  omega
theorem b4C (q:Nat->Rat) (k:Nat):((Int.gcd (lQ q k) ((q k).den:Int):Nat):Int)≠0:=fun e=>by
 have e:Int.gcd (lQ q k) ((q k).den:Int)=0:=by omega
 exact ZT q k (Int.gcd_eq_zero_iff.1 e).1
theorem b4D {q:Nat->Rat} {K k:Nat} (h:rsz (q k)<=K):isz (((q k).den:Int).fdiv ((Int.gcd (lQ q k) ((q k).den:Int):Nat):Int))<=K :=
 dh (ZO (b4C q k) (Int.gcd_dvd_right ..)) (dh (dG _) h)
theorem QL {q:Nat->Rat} {K n:Nat} (h:∀ k,k<n->rsz (q k)<=K):∀ k,k<=n->isz (lQ q k)<=k*K+1
 | 0,_=>by show isz 1<=_;rw[show isz 1=1 by decide +kernel];omega
 | k+1,hk=>by
  have ih:=QL h k (by omega)
  have m:=dH (lQ q k) (((q k).den:Int).fdiv ((Int.gcd (lQ q k) ((q k).den:Int):Nat):Int))
  have d:=b4D (h k (by omega))
  show isz (lQ q k*((q k).den:Int).fdiv ((Int.gcd (lQ q k) ((q k).den:Int):Nat):Int))<=_
  rw[yx]
  omega
theorem a2Q {D:Int} {q:Nat->Rat} {j C:Nat} (hD:isz D<=C) (h:((q j).den:Int) ∣ D):isz (D.fdiv ((q j).den:Int))<=C :=
 dh (ZO (by have:=(q j).den_nz;omega) h) hD
theorem OM {D:Int} {q:Nat->Rat} {j K C:Nat} (hD:isz D<=C) (h:((q j).den:Int) ∣ D) (hK:rsz (q j)<=K):isz (YM D q j)<=K+C:=by
 have m:=dH (q j).num (D.fdiv ((q j).den:Int))
 have a:=dL (q j)
 have b:=a2Q hD h
 unfold YM;omega
theorem YN {D:Int} {q:Nat->Rat} {j:Nat} (h0:D≠0) (h:((q j).den:Int) ∣ D) (hq:q j≠0):YM D q j≠0:=by
 intro e
 unfold YM at e
 obtain⟨t,rfl⟩:=h
 have hd:((q j).den:Int)≠0:=by have:=(q j).den_nz;omega
 rw[Int.mul_fdiv_cancel_left _ hd] at e
 rcases Int.mul_eq_zero.1 e with e|e
 ·exact hq (Rat.num_eq_zero.1 e)
 ·exact h0 (by rw[e,Int.mul_zero])
theorem b3k {xs:Nat->Int} {n j:Nat} (hj:j<n):prG xs n ∣ xs j:=by
 unfold prG
 split
 ·exact Int.neg_dvd.2 (YZ n j hj)
 ·exact YZ n j hj
theorem a3t {xs:Nat->Int} {n j:Nat} (hj:j<n) (h:xs j≠0):prG xs n≠0:=by
 have:=a8L h n hj
 unfold prG
 split<;>omega
theorem a5r {xs:Nat->Int} {n K:Nat} (h:∀ j,j<n->isz (xs j)<=K):isz (prG xs n)<=K:=by
 unfold prG
 split
 ·rw[kX];exact FI n h
 ·exact FI n h
theorem b3l {xs:Nat->Int} {n j K:Nat} (hj:j<n) (h0:prG xs n≠0) (h:isz (xs j)<=K):isz (prN xs n j)<=K:=dh (ZO h0 (b3k hj)) h
theorem VJ {t:Nat} {xs ys:Nat->Int} {n:Nat} (h:∀ j,j<n->ys j=(t:Int)*xs j):∀ k,k<=n->gsq ys k=(t:Int)*gsq xs k
 | 0,_=>by show (0:Int)=(t:Int)*0;rw[Int.mul_zero]
 | k+1,hk=>by
  show ((Int.gcd (gsq ys k) (ys k):Nat):Int)=(t:Int)*((Int.gcd (gsq xs k) (xs k):Nat):Int)
  rw[VJ h k (by omega),h k (by omega),Int.gcd_mul_left,Int.natAbs_natCast,Int.natCast_mul]
theorem VF {t:Nat} (ht:0<t) {xs ys:Nat->Int} {n:Nat} (h:∀ j,j<n->ys j=(t:Int)*xs j):∀ k,k<=n->fsq ys k=(t:Int)*fsq xs k
 | 0,_=>by show (0:Int)=(t:Int)*0;rw[Int.mul_zero]
 | k+1,hk=>by
  show (if fsq ys k=0 then ys k else fsq ys k)=(t:Int)*(if fsq xs k=0 then xs k else fsq xs k)
  rw[VF ht h k (by omega),h k (by omega)]
  by_cases e:fsq xs k=0
  ·rw[jv e,jv (by rw[e,Int.mul_zero])]
  ·rw[jq e,jq (fun e2=>by rcases Int.mul_eq_zero.1 e2 with e2|e2<;>omega)]
theorem a7d {t:Nat} (ht:0<t) {xs ys:Nat->Int} {n j:Nat} (h:∀ j,j<n->ys j=(t:Int)*xs j) (hj:j<n):prN ys n j=prN xs n j:=by
 have ht':(0:Int)<(t:Int):=by omega
 have e:prG ys n=(t:Int)*prG xs n:=by
  unfold prG
  rw[VJ h n (au n),VF ht h n (au n)]
  by_cases e:fsq xs n<0
  ·rw[jv e,jv (Int.mul_neg_of_pos_of_neg ht' e),Int.mul_neg]
  ·rw[jq e,jq (fun e2=>by have:=Int.mul_nonneg (Int.le_of_lt ht') (show 0<=fsq xs n by omega);omega)]
 unfold prN
 rw[e,h j hj,Int.mul_fdiv_mul_of_pos _ _ ht']
def b3m (q:Nat->Rat) (n:Nat):List Int:=(List.range n).map (prN (YM (lQ q n) q) n)
def c1r (q:Nat->Rat) (n:Nat):List Int:=(List.range n).map (prN (YM (qV q n) q) n)
theorem b0v (q:Nat->Rat) (n:Nat):c1r q n=b3m q n:=by
 obtain⟨t,ht⟩:a1J q n ∣ mulN q n:=a1K n fun j hj=>RF n j hj
 have h0:=QK q n
 have h1:=RG q n
 have t0:0<t:=Nat.pos_of_ne_zero fun e=>by rw[e,Nat.mul_zero] at ht;omega
 unfold c1r b3m
 refine Ad fun j hj=>a7d t0 (fun k hk=>?_) (Cb.1 hj)
 unfold YM
 obtain⟨s,hs⟩:=QJ (q:=q) n k hk
 have hd:((q k).den:Int)≠0:=by have:=(q k).den_nz;omega
 rw[NP,NI,ht,hs,Int.natCast_mul,Int.natCast_mul,Int.mul_assoc,Int.mul_fdiv_cancel_left _ hd,Int.mul_fdiv_cancel_left _ hd]
 grind
set_option maxHeartbeats 1000000
def GK (l:LQ'):Prop:=l.length<=64/\(∀ q ∈ l,rsz q<=1000000)/\∃ q ∈ l,q≠0
def lcN (l:LQ') (j:Nat):Int:=YM (lQ (lv l) l.length) (lv l) j
def qI (l:LQ'):List Int:=b3m (lv l) l.length
noncomputable def c0s:Ctr:=⟨[.list tQ],[.list tZ],fun x=>GK x.1,fun x=>(qI x.1,())⟩
def prO (N:Nat->Int) (n k:Nat):List Int:=(List.range n).map fun j=>if j<k then prN N n j else N j
theorem jK {N:Nat->Int} {n k:Nat}:(prO N n k).length=n:=by unfold prO;simp
theorem xA {N:Nat->Int} {n k j:Nat} (h:j<n):(prO N n k).getD j 0=if j<k then prN N n j else N j:=by
 unfold prO
 rw[dn,tq,Bo h];rfl
theorem a5s {N:Nat->Int} {n:Nat}:(List.range n).map N=prO N n 0:=Ad fun j _=>(jq (by omega)).symm
theorem a5t {N:Nat->Int} {n:Nat}:prO N n n=(List.range n).map (prN N n):=Ad fun j hj=>jv (Cb.1 hj)
theorem NQ {N:Nat->Int} {n k:Nat} (h:k<n):(prO N n k).set k (((prO N n k).getD k 0).fdiv (prG N n))=prO N n (k+1):=by
 rw[xA h,jq (by omega)]
 apply List.ext_getElem?
 intro j
 unfold prO
 rw[List.getElem?_set]
 by_cases e:k=j
 ·subst e
  rw[jv rfl,tq,Bo h,jv (by simpa using h)]
  show some _=some (if k<k+1 then prN N n k else N k)
  rw[jv (by omega)];rfl
 ·rw[jq e,tq,tq]
  by_cases hj:j<n
  ·rw[Bo hj]
   show some (if j<k then prN N n j else N j)=some (if j<k+1 then prN N n j else N j)
   by_cases h2:j<k
   ·rw[jv h2,jv (by omega)]
   ·rw[jq h2,jq (by omega)]
  ·rw[uo (by simpa using hj)];rfl
theorem GK.at {l:LQ'} (h:GK l):(∀ k,k<l.length->rsz (lv l k)<=1000000)/\∃ j,j<l.length/\lv l j≠0:=by
 refine⟨fun k hk=>aV h.2.1 hk,?_⟩
 obtain⟨q,hq,hz⟩:=h.2.2
 obtain⟨j,hj,rfl⟩:=Bl hq
 exact⟨j,hj,by show l.getD j 0≠0;rw[dn,dw hj];exact hz⟩
theorem b1c {x:Int}:(x.sign=0)=(x=0):=propext Am
theorem b9j {x:Int}:(sgn x=0)=(x=0):=propext Am
theorem YS (q:Rat):((q.den:Nat):Int)≠0:=by have:=q.den_nz;omega
theorem b3n:aS Tryz.prog 149 c0s:=by
 refine bH ((((((nil0.ad b1K).ad b9y).ad b9z).ad b9A).ad b9B).ad b9C) ⟨[3,5,6,7,8,11,12,14,15,16,18,20],[],[]⟩ Tryz.func149 rfl (by decide) (fun x=>[.inv {k:Nat // k<=(show LQ' from x.1).length} (fun k=>[(24,.val tI (k.1:Int))]) (fun k=>[(3,.box [⟨tZ,lQ (lv (show LQ' from x.1)) k.1⟩])]) (fun k=>(show LQ' from x.1).length-k.1) ⟨0,by omega⟩ (fun _=>[]),
  .inv {k:Nat // k<=(show LQ' from x.1).length} (fun k=>[(46,.val tI (k.1:Int)),(10,.own 64 0),(64,.any)]) (fun k=>[(64,.row 45 tZ ((List.range k.1).map (lcN (show LQ' from x.1))) 0),(3,.box [⟨tZ,lQ (lv (show LQ' from x.1)) (show LQ' from x.1).length⟩]),(11,.box [⟨tZ,gsq (lcN (show LQ' from x.1)) k.1⟩]),(12,.box [⟨tZ,fsq (lcN (show LQ' from x.1)) k.1⟩])]) (fun k=>(show LQ' from x.1).length-k.1) ⟨0,by omega⟩ (fun _=>[]),
  .inv {k:Nat // k<=(show LQ' from x.1).length} (fun k=>[(81,.val tI (k.1:Int))]) (fun k=>[(64,.row 45 tZ (prO (lcN (show LQ' from x.1)) (show LQ' from x.1).length k.1) 0),(11,.box [⟨tZ,prG (lcN (show LQ' from x.1)) (show LQ' from x.1).length⟩])]) (fun k=>(show LQ' from x.1).length-k.1) ⟨0,by omega⟩ (fun _=>[])]) (fun x hp=>?_)
 obtain⟨l,u⟩:=x
 change List Rat at l
 refine dD (let A₀:=(lQ (lv l) l.length);let A₁:=(prG (lcN l) l.length);(gB 1/\True)/\(asT Int 0=0/\1=lQ (lv l) 0/\True)/\∀ (i:{ k:Nat // k<=List.length l }),let eU:=(lQ (lv l) (aA i));let A₂:=(Int.gcd eU (aB (Rat.den (List.getD l (aB (aA i)).toNat 0))));asT Bool true=true/\ifB (decide (aB (aA i)<aB l.length)) ((0<=aB (aA i)/\aB (aA i)<aB l.length/\True)/\((isz eU<=1000000000/\isz (aB (Rat.den (List.getD l (aB (aA i)).toNat 0)))<=1000000000)/\True)/\((isz (aB (Rat.den (List.getD l (aB (aA i)).toNat 0)))<=1000000000/\isz (aB A₂)<=1000000000/\aB A₂≠0)/\True)/\((isz eU<=1000000000/\isz (Int.fdiv (aB (Rat.den (List.getD l (aB (aA i)).toNat 0))) (aB A₂))<=1000000000)/\True)/\∃ (i':{ k:Nat // k<=List.length l }),List.length l-aA i'<List.length l-aA i/\IntKind.wrap IntKind.i64 (aB (aA i)+1)=aB (aA i')/\lQ (lv l) (aA i)*Int.fdiv (aB (Rat.den (List.getD l (aB (aA i)).toNat 0))) (aB A₂)=lQ (lv l) (aA i')/\True) ((asT Int 0=0/\(True/\asT (List Int) (aJ Int)=aJ Int)/\(asT (List Int) (aJ Int)=aJ Int/\0=0/\asT Bool true=true)/\lQ (lv l) (aA i)=lQ (lv l) l.length/\0=gsq (lcN l) 0/\0=fsq (lcN l) 0/\True)/\∀ (i:{ k:Nat // k<=List.length l }),let gQ:=(List.getD l (aB (aA i)).toNat 0);let iF:=(Rat.num gQ*Int.fdiv A₀ (aB (Rat.den gQ)));let jR:=(List.map (lcN l) (List.range (aA i)));let pY:=(gsq (lcN l) (aA i));asT Bool true=true/\ifB (decide (aB (aA i)<aB l.length)) ((0<=aB (aA i)/\aB (aA i)<aB l.length/\True)/\((isz A₀<=1000000000/\isz (aB (Rat.den gQ))<=1000000000/\aB (Rat.den gQ)≠0)/\True)/\((isz (Rat.num gQ)<=1000000000/\isz (Int.fdiv A₀ (aB (Rat.den gQ)))<=1000000000)/\True)/\(List.length jR+List.length (Rat.num gQ*Int.fdiv A₀ (aB (Rat.den gQ))::aJ Int)<=1000000000/\True)/\((isz pY<=1000000000/\isz iF<=1000000000)/\True)/\(True/\True)/\ifB (Int.sign (fsq (lcN l) (aA i))==0) (∃ (i':{ k:Nat // k<=List.length l }),List.length l-aA i'<List.length l-aA i/\IntKind.wrap IntKind.i64 (aB (aA i)+1)=aB (aA i')/\List.map (lcN l) (List.range (aA i))++Rat.num gQ*Int.fdiv A₀ (aB (Rat.den gQ))::aJ Int=List.map (lcN l) (List.range (aA i'))/\lQ (lv l) l.length=lQ (lv l) l.length/\aB (Int.gcd pY iF)=gsq (lcN l) (aA i')/\Rat.num gQ*Int.fdiv A₀ (aB (Rat.den gQ))=fsq (lcN l) (aA i')/\True) (∃ (i':{ k:Nat // k<=List.length l }),List.length l-aA i'<List.length l-aA i/\IntKind.wrap IntKind.i64 (aB (aA i)+1)=aB (aA i')/\List.map (lcN l) (List.range (aA i))++Rat.num gQ*Int.fdiv A₀ (aB (Rat.den gQ))::aJ Int=List.map (lcN l) (List.range (aA i'))/\lQ (lv l) l.length=lQ (lv l) l.length/\aB (Int.gcd pY iF)=gsq (lcN l) (aA i')/\fsq (lcN l) (aA i)=fsq (lcN l) (aA i')/\True)) ((True/\True)/\ifB (decide (Int.sign (fsq (lcN l) (aA i))<0)) ((isz pY<=1000000000/\True)/\(asT Int 0=0/\List.map (lcN l) (List.range (aA i))=prO (lcN l) l.length 0/\-gsq (lcN l) (aA i)=prG (lcN l) l.length/\True)/\∀ (i_1:{ k:Nat // k<=List.length l }),let lG:=(prO (lcN l) l.length (aA i_1));let yG:=(aB (aA i_1)).toNat;asT Bool true=true/\ifB (decide (aB (aA i_1)<aB jR.length)) ((0<=aB (aA i_1)/\aB (aA i_1)<aB lG.length/\Int.toNat (aB (aA i_1))<List.length lG/\True)/\((isz (List.getD lG yG 0)<=1000000000/\isz A₁<=1000000000/\prG (lcN l) l.length≠0)/\0<=aB (aA i_1)/\aB (aA i_1)<aB lG.length/\Int.toNat (aB (aA i_1))<List.length lG/\True)/\∃ (i':{ k:Nat // k<=List.length l }),List.length l-aA i'<List.length l-aA i_1/\IntKind.wrap IntKind.i64 (aB (aA i_1)+1)=aB (aA i')/\List.set lG yG (Int.fdiv (List.getD lG yG 0) A₁)=prO (lcN l) l.length (aA i')/\prG (lcN l) l.length=prG (lcN l) l.length/\True) (True/\prO (lcN l) l.length (aA i_1)=qI l/\True)) ((asT Int 0=0/\List.map (lcN l) (List.range (aA i))=prO (lcN l) l.length 0/\gsq (lcN l) (aA i)=prG (lcN l) l.length/\True)/\∀ (i_1:{ k:Nat // k<=List.length l }),let oO:=(prO (lcN l) l.length (aA i_1));let CB:=(aB (aA i_1)).toNat;asT Bool true=true/\ifB (decide (aB (aA i_1)<aB jR.length)) ((0<=aB (aA i_1)/\aB (aA i_1)<aB oO.length/\Int.toNat (aB (aA i_1))<List.length oO/\True)/\((isz (List.getD oO CB 0)<=1000000000/\isz A₁<=1000000000/\prG (lcN l) l.length≠0)/\0<=aB (aA i_1)/\aB (aA i_1)<aB oO.length/\Int.toNat (aB (aA i_1))<List.length oO/\True)/\∃ (i':{ k:Nat // k<=List.length l }),List.length l-aA i'<List.length l-aA i_1/\IntKind.wrap IntKind.i64 (aB (aA i_1)+1)=aB (aA i')/\List.set oO CB (Int.fdiv (List.getD oO CB 0) A₁)=prO (lcN l) l.length (aA i')/\prG (lcN l) l.length=prG (lcN l) l.length/\True) (True/\prO (lcN l) l.length (aA i_1)=qI l/\True))))) (by kernel_rfl) ?_
 have hZ:(⟨false,0,[],[]⟩:aG)=bM:=rfl
 try simp only[aO,ay,ak]
 try dsimp only[aB,asT,aA,aJ,Ty.den,Lf.den] at *
 try simp only[hZ,Int.toNat_natCast,aO,ay,ak,ni,lg,jc,iq]
 try simp only[fU,fQ,List.all_cons,List.all_nil,oq,iw,jo,jh,ql,ne_eq,aj,je,jf,jl,mg,vw,qg,wu,ni,lg,jw,iy,List.length_cons,List.length_nil]
 have hp:GK l:=hp
 obtain⟨hK,j0,hj0,hx0⟩:=hp.at
 have hn:=hp.1
 have hv:∀ j,l.getD j 0=lv l j:=fun _=>rfl
 simp only[hv,xw,iq,b1c] at *
 have hL:∀ k,k<=l.length->isz (lQ (lv l) k)<=64000001:=fun k hk=>dh (QL hK k hk) (by omega)
 have hd:∀ k,k<l.length->isz ((lv l k).den:Int)<=1000000:=fun k hk=>dh (dG _) (hK k hk)
 have hm:∀ k,k<l.length->isz (lv l k).num<=1000000:=fun k hk=>dh (dL _) (hK k hk)
 have hN:∀ j,j<l.length->isz (lcN l j)<=65000001:=fun j hj=>dh (OM (hL _ (au _)) (zJ hj) (hK j hj)) (by omega)
 have hne:prG (lcN l) l.length≠0:=a3t hj0 (YN (ZT _ _) (zJ hj0) hx0)
 have hG:isz (prG (lcN l) l.length)<=65000001:=a5r hN
 have hg:∀ k,k<=l.length->isz (gsq (lcN l) k)<=65000001:=fun k hk=>FI k fun j hj=>hN j (by omega)
 have hN2:∀ j,(lv l j).num*(lQ (lv l) l.length).fdiv ((lv l j).den:Int)=lcN l j:=fun _=>rfl
 simp only[hN2]
 refine⟨⟨by omega,by omega⟩,rfl,fun i=>⟨fun h1=>?_,fun h1=>⟨⟨by rw[show i.1=l.length by have:=i.2;omega],rfl,rfl⟩,fun i2=>⟨fun h2=>?_,fun h2=>?_⟩⟩⟩⟩
 ·have hi:i.1<l.length:=by omega
  exact⟨⟨by omega,h1⟩,⟨dh (hL _ i.2) (by omega),dh (hd _ hi) (by omega)⟩,⟨dh (hd _ hi) (by omega),dh (mP (YS _) (hd _ hi)) (by omega),b4C _ _⟩,⟨dh (hL _ i.2) (by omega),dh (b4D (hK _ hi)) (by omega)⟩,⟨i.1+1,by omega⟩,by simp only;omega,by rw[bI (by omega) (by omega)];rfl,rfl⟩
 ·have hi:i2.1<l.length:=by omega
  refine⟨⟨by omega,h2⟩,⟨dh (hL _ (au _)) (by omega),dh (hd _ hi) (by omega),YS _⟩,⟨dh (hm _ hi) (by omega),dh (a2Q (hL _ (au _)) (zJ hi)) (by omega)⟩,by omega,⟨dh (hg _ i2.2) (by omega),dh (hN _ hi) (by omega)⟩,fun h3=>⟨⟨i2.1+1,by omega⟩,by simp only;omega,by rw[bI (by omega) (by omega)];rfl,?_,rfl,?_⟩,fun h3=>⟨⟨i2.1+1,by omega⟩,by simp only;omega,by rw[bI (by omega) (by omega)];rfl,?_,rfl,?_⟩⟩
  ·rw[Aw,List.map_append];rfl
  ·exact(jv h3).symm
  ·rw[Aw,List.map_append];rfl
  ·exact(jq h3).symm
 ·have hi2:i2.1=l.length:=by have:=i2.2;omega
  rw[hi2]
  refine⟨fun h3=>⟨dh (hg _ (au _)) (by omega),?_⟩,fun h3=>?_⟩
  ·refine⟨⟨a5s,(jv (Int.sign_neg_iff.1 h3)).symm⟩,fun i3=>⟨fun h4=>?_,fun h4=>?_⟩⟩
   ·have hi3:i3.1<l.length:=by omega
    rw[xA hi3,jq (by omega)]
    refine⟨⟨by omega,by rw[jK];omega,by rw[jK];exact hi3⟩,⟨⟨dh (hN _ hi3) (by omega),dh hG (by omega),hne⟩,by omega,by rw[jK];omega,by rw[jK];exact hi3⟩,⟨i3.1+1,by omega⟩,by simp only;omega,by rw[bI (by omega) (by omega)];rfl,?_⟩
    have:=NQ (N:=lcN l) hi3
    rw[xA hi3,jq (by omega)] at this
    exact this
   ·rw[show i3.1=l.length by have:=i3.2;omega,a5t];rfl
  ·refine⟨⟨a5s,(jq (fun e=>h3 (Int.sign_neg_iff.2 e))).symm⟩,fun i3=>⟨fun h4=>?_,fun h4=>?_⟩⟩
   ·have hi3:i3.1<l.length:=by omega
    rw[xA hi3,jq (by omega)]
    refine⟨⟨by omega,by rw[jK];omega,by rw[jK];exact hi3⟩,⟨⟨dh (hN _ hi3) (by omega),dh hG (by omega),hne⟩,by omega,by rw[jK];omega,by rw[jK];exact hi3⟩,⟨i3.1+1,by omega⟩,by simp only;omega,by rw[bI (by omega) (by omega)];rfl,?_⟩
    have:=NQ (N:=lcN l) hi3
    rw[xA hi3,jq (by omega)] at this
    exact this
   ·rw[show i3.1=l.length by have:=i3.2;omega,a5t];rfl
def lrN (l:LQ') (j:Nat):Int:=YM (qV (lv l) l.length) (lv l) j
theorem b1L:aS Tryz.prog 33 cIZ:=(a2M fun x w h0 h1=>a0m x w h0 h1)
theorem b9D:aS Tryz.prog 131 (cZ2 fun x y=>((Int.gcd x y:Nat):Int)):=(DK fun v u x y w h1 h2 l1 l2=>GU v u x y w h1 h2 l1 l2)
theorem b9E:aS Tryz.prog 106 (cZ1 fun x=>-x):=(a2P fun v x w h1 l1=>GV v x w h1 l1)
theorem b9F:aS Tryz.prog 200 (b4c 400000000):=(a7W fun v u x y w h1 h2 l1 l2 hy=>qL v u x y w h1 h2 l1 l2 hy)
theorem a9O:aS Tryz.prog 102 c0s:=by
 refine bH ((((((nil0.ad b1L).ad b9D).ad b1I).ad b9E).ad b1H).ad b9F) ⟨[3,5,7,10,11,12,14],[],[]⟩ Tryz.func102 rfl (by decide) (fun x=>[.inv {k:Nat // k<=(show LQ' from x.1).length} (fun k=>[(19,.val tI (k.1:Int))]) (fun k=>[(3,.box [⟨tZ,qV (lv (show LQ' from x.1)) k.1⟩])]) (fun k=>(show LQ' from x.1).length-k.1) ⟨0,by omega⟩ (fun _=>[]),
  .inv {k:Nat // k<=(show LQ' from x.1).length} (fun k=>[(31,.val tI (k.1:Int)),(8,.val tI (sgn (fsq (lrN (show LQ' from x.1)) k.1))),(6,.own 56 0),(56,.any)]) (fun k=>[(56,.row 45 tZ ((List.range k.1).map (lrN (show LQ' from x.1))) 0),(3,.box [⟨tZ,qV (lv (show LQ' from x.1)) (show LQ' from x.1).length⟩]),(7,.box [⟨tZ,gsq (lrN (show LQ' from x.1)) k.1⟩])]) (fun k=>(show LQ' from x.1).length-k.1) ⟨0,by omega⟩ (fun _=>[]),
  .inv {k:Nat // k<=(show LQ' from x.1).length} (fun k=>[(65,.val tI (k.1:Int))]) (fun k=>[(56,.row 45 tZ (prO (lrN (show LQ' from x.1)) (show LQ' from x.1).length k.1) 0),(7,.box [⟨tZ,prG (lrN (show LQ' from x.1)) (show LQ' from x.1).length⟩])]) (fun k=>(show LQ' from x.1).length-k.1) ⟨0,by omega⟩ (fun _=>[])]) (fun x hp=>?_)
 obtain⟨l,u⟩:=x
 change List Rat at l
 refine dD (let A₀:=(qV (lv l) l.length);let A₁:=(prG (lrN l) l.length);(gB 1/\True)/\(asT Int 0=0/\1=qV (lv l) 0/\True)/\∀ (i:{ k:Nat // k<=List.length l }),asT Bool true=true/\ifB (decide (aB (aA i)<aB l.length)) ((0<=aB (aA i)/\aB (aA i)<aB l.length/\True)/\((isz (qV (lv l) (aA i))<=1000000000/\isz (aB (Rat.den (List.getD l (aB (aA i)).toNat 0)))<=1000000000)/\True)/\∃ (i':{ k:Nat // k<=List.length l }),List.length l-aA i'<List.length l-aA i/\IntKind.wrap IntKind.i64 (aB (aA i)+1)=aB (aA i')/\qV (lv l) (aA i)*aB (Rat.den (List.getD l (aB (aA i)).toNat 0))=qV (lv l) (aA i')/\True) ((gB 0/\True)/\(asT Int 0=0/\0=sgn (fsq (lrN l) 0)/\(True/\asT (List Int) (aJ Int)=aJ Int)/\(asT (List Int) (aJ Int)=aJ Int/\0=0/\asT Bool true=true)/\qV (lv l) (aA i)=qV (lv l) l.length/\0=gsq (lrN l) 0/\True)/\∀ (i:{ k:Nat // k<=List.length l }),let A₂:=(List.getD l (aB (aA i)).toNat 0);let eU:=(Int.fdiv A₀ (aB (Rat.den A₂))*Rat.num A₂);let iF:=(List.map (lrN l) (List.range (aA i)));let gQ:=(List.length iF+List.length (Int.fdiv A₀ (aB (Rat.den A₂))*Rat.num A₂::aJ Int)<=1000000000/\True);let jR:=(gsq (lrN l) (aA i));let pY:=(fsq (lrN l) (aA i));asT Bool true=true/\ifB (decide (aB (aA i)<aB l.length)) ((0<=aB (aA i)/\aB (aA i)<aB l.length/\True)/\((isz A₀<=400000000/\isz (aB (Rat.den A₂))<=400000000/\aB (Rat.den A₂)≠0)/\True)/\((isz (Int.fdiv A₀ (aB (Rat.den A₂)))<=1000000000/\isz (Rat.num A₂)<=1000000000)/\True)/\((isz jR<=1000000000/\isz eU<=1000000000)/\True)/\ifB (sgn pY==0) ((isz eU<=1000000000/\True)/\gQ/\∃ (i':{ k:Nat // k<=List.length l }),List.length l-aA i'<List.length l-aA i/\IntKind.wrap IntKind.i64 (aB (aA i)+1)=aB (aA i')/\sgn eU=sgn (fsq (lrN l) (aA i'))/\List.map (lrN l) (List.range (aA i))++Int.fdiv A₀ (aB (Rat.den A₂))*Rat.num A₂::aJ Int=List.map (lrN l) (List.range (aA i'))/\qV (lv l) l.length=qV (lv l) l.length/\aB (Int.gcd jR eU)=gsq (lrN l) (aA i')/\True) (gQ/\∃ (i':{ k:Nat // k<=List.length l }),List.length l-aA i'<List.length l-aA i/\IntKind.wrap IntKind.i64 (aB (aA i)+1)=aB (aA i')/\sgn pY=sgn (fsq (lrN l) (aA i'))/\List.map (lrN l) (List.range (aA i))++Int.fdiv A₀ (aB (Rat.den A₂))*Rat.num A₂::aJ Int=List.map (lrN l) (List.range (aA i'))/\qV (lv l) l.length=qV (lv l) l.length/\aB (Int.gcd jR eU)=gsq (lrN l) (aA i')/\True)) (ifB (decide (sgn pY<0)) ((isz jR<=1000000000/\True)/\(asT Int 0=0/\List.map (lrN l) (List.range (aA i))=prO (lrN l) l.length 0/\-gsq (lrN l) (aA i)=prG (lrN l) l.length/\True)/\∀ (i_1:{ k:Nat // k<=List.length l }),let lG:=(prO (lrN l) l.length (aA i_1));let yG:=(aB (aA i_1)).toNat;asT Bool true=true/\ifB (decide (aB (aA i_1)<aB iF.length)) ((0<=aB (aA i_1)/\aB (aA i_1)<aB lG.length/\Int.toNat (aB (aA i_1))<List.length lG/\(isz (List.getD lG yG 0)<=400000000/\isz A₁<=400000000/\prG (lrN l) l.length≠0)/\0<=aB (aA i_1)/\aB (aA i_1)<aB lG.length/\Int.toNat (aB (aA i_1))<List.length lG/\True)/\∃ (i':{ k:Nat // k<=List.length l }),List.length l-aA i'<List.length l-aA i_1/\IntKind.wrap IntKind.i64 (aB (aA i_1)+1)=aB (aA i')/\List.set lG yG (Int.fdiv (List.getD lG yG 0) A₁)=prO (lrN l) l.length (aA i')/\prG (lrN l) l.length=prG (lrN l) l.length/\True) (True/\prO (lrN l) l.length (aA i_1)=qI l/\True)) ((asT Int 0=0/\List.map (lrN l) (List.range (aA i))=prO (lrN l) l.length 0/\gsq (lrN l) (aA i)=prG (lrN l) l.length/\True)/\∀ (i_1:{ k:Nat // k<=List.length l }),let oO:=(prO (lrN l) l.length (aA i_1));let CB:=(aB (aA i_1)).toNat;asT Bool true=true/\ifB (decide (aB (aA i_1)<aB iF.length)) ((0<=aB (aA i_1)/\aB (aA i_1)<aB oO.length/\Int.toNat (aB (aA i_1))<List.length oO/\(isz (List.getD oO CB 0)<=400000000/\isz A₁<=400000000/\prG (lrN l) l.length≠0)/\0<=aB (aA i_1)/\aB (aA i_1)<aB oO.length/\Int.toNat (aB (aA i_1))<List.length oO/\True)/\∃ (i':{ k:Nat // k<=List.length l }),List.length l-aA i'<List.length l-aA i_1/\IntKind.wrap IntKind.i64 (aB (aA i_1)+1)=aB (aA i')/\List.set oO CB (Int.fdiv (List.getD oO CB 0) A₁)=prO (lrN l) l.length (aA i')/\prG (lrN l) l.length=prG (lrN l) l.length/\True) (True/\prO (lrN l) l.length (aA i_1)=qI l/\True))))) (by kernel_rfl) ?_
 have hZ:(⟨false,0,[],[]⟩:aG)=bM:=rfl
 try simp only[aO,ay,ak]
 try dsimp only[aB,asT,aA,aJ,Ty.den,Lf.den] at *
 try simp only[hZ,Int.toNat_natCast,aO,ay,ak,ni,lg,jc,iq]
 try simp only[fU,fQ,List.all_cons,List.all_nil,oq,iw,jo,jh,ql,ne_eq,aj,je,jf,jl,mg,vw,qg,wu,ni,lg,jw,iy,List.length_cons,List.length_nil]
 have hp:GK l:=hp
 obtain⟨hK,j0,hj0,hx0⟩:=hp.at
 have hn:=hp.1
 have hv:∀ j,l.getD j 0=lv l j:=fun _=>rfl
 simp only[hv,xw,iq,b1c,b9j] at *
 have hL:∀ k,k<=l.length->isz (qV (lv l) k)<=64000001:=fun k hk=>dh (a1S hK k hk) (by omega)
 have hd:∀ k,k<l.length->isz ((lv l k).den:Int)<=1000000:=fun k hk=>dh (dG _) (hK k hk)
 have hm:∀ k,k<l.length->isz (lv l k).num<=1000000:=fun k hk=>dh (dL _) (hK k hk)
 have hN:∀ j,j<l.length->isz (lrN l j)<=65000001:=fun j hj=>dh (OM (hL _ (au _)) (RD hj) (hK j hj)) (by omega)
 have hne:prG (lrN l) l.length≠0:=a3t hj0 (YN (b2T _ _) (RD hj0) hx0)
 have hG:isz (prG (lrN l) l.length)<=65000001:=a5r hN
 have hg:∀ k,k<=l.length->isz (gsq (lrN l) k)<=65000001:=fun k hk=>FI k fun j hj=>hN j (by omega)
 have hN2:∀ j,(qV (lv l) l.length).fdiv ((lv l j).den:Int)*(lv l j).num=lrN l j:=fun _=>Int.mul_comm _ _
 simp only[hN2]
 refine⟨⟨by omega,by omega⟩,rfl,fun i=>⟨fun h1=>?_,fun h1=>⟨⟨by omega,by omega⟩,⟨rfl,by rw[show i.1=l.length by have:=i.2;omega],rfl⟩,fun i2=>⟨fun h2=>?_,fun h2=>?_⟩⟩⟩⟩
 ·have hi:i.1<l.length:=by omega
  exact⟨⟨by omega,h1⟩,⟨dh (hL _ i.2) (by omega),dh (hd _ hi) (by omega)⟩,⟨i.1+1,by omega⟩,by simp only;omega,by rw[bI (by omega) (by omega)];rfl,rfl⟩
 ·have hi:i2.1<l.length:=by omega
  refine⟨⟨by omega,h2⟩,⟨dh (hL _ (au _)) (by omega),dh (hd _ hi) (by omega),YS _⟩,⟨dh (a2Q (hL _ (au _)) (RD hi)) (by omega),dh (hm _ hi) (by omega)⟩,⟨dh (hg _ i2.2) (by omega),dh (hN _ hi) (by omega)⟩,fun h3=>⟨dh (hN _ hi) (by omega),by omega,⟨i2.1+1,by omega⟩,by simp only;omega,by rw[bI (by omega) (by omega)];rfl,?_,?_,rfl⟩,fun h3=>⟨by omega,⟨i2.1+1,by omega⟩,by simp only;omega,by rw[bI (by omega) (by omega)];rfl,?_,?_,rfl⟩⟩
  ·exact yj sgn (jv h3).symm
  ·rw[Aw,List.map_append];rfl
  ·exact yj sgn (jq h3).symm
  ·rw[Aw,List.map_append];rfl
 ·have hi2:i2.1=l.length:=by have:=i2.2;omega
  rw[hi2]
  refine⟨fun h3=>⟨dh (hg _ (au _)) (by omega),?_⟩,fun h3=>?_⟩
  ·refine⟨⟨a5s,(jv (Int.sign_neg_iff.1 h3)).symm⟩,fun i3=>⟨fun h4=>?_,fun h4=>?_⟩⟩
   ·have hi3:i3.1<l.length:=by omega
    rw[xA hi3,jq (by omega)]
    refine⟨⟨by omega,by rw[jK];omega,by rw[jK];exact hi3,⟨dh (hN _ hi3) (by omega),dh hG (by omega),hne⟩,by omega,by rw[jK];omega,by rw[jK];exact hi3⟩,⟨i3.1+1,by omega⟩,by simp only;omega,by rw[bI (by omega) (by omega)];rfl,?_⟩
    have:=NQ (N:=lrN l) hi3
    rw[xA hi3,jq (by omega)] at this
    exact this
   ·rw[show i3.1=l.length by have:=i3.2;omega,a5t];exact b0v _ _
  ·refine⟨⟨a5s,(jq (fun e=>h3 (Int.sign_neg_iff.2 e))).symm⟩,fun i3=>⟨fun h4=>?_,fun h4=>?_⟩⟩
   ·have hi3:i3.1<l.length:=by omega
    rw[xA hi3,jq (by omega)]
    refine⟨⟨by omega,by rw[jK];omega,by rw[jK];exact hi3,⟨dh (hN _ hi3) (by omega),dh hG (by omega),hne⟩,by omega,by rw[jK];omega,by rw[jK];exact hi3⟩,⟨i3.1+1,by omega⟩,by simp only;omega,by rw[bI (by omega) (by omega)];rfl,?_⟩
    have:=NQ (N:=lrN l) hi3
    rw[xA hi3,jq (by omega)] at this
    exact this
   ·rw[show i3.1=l.length by have:=i3.2;omega,a5t];exact b0v _ _
theorem RU (l:LQ'):(qI l).length=l.length:=by unfold qI b3m;simp
theorem a5u {l:LQ'} (h:GK l):∀ n ∈ qI l,isz n<=65000001:=fun n hn=>by
 obtain⟨hK,j0,hj0,hx0⟩:=h.at
 have h64:=h.1
 have hN:∀ j,j<l.length->isz (lcN l j)<=65000001:=fun j hj=>dh (OM (dh (QL hK _ (au _)) (show _<=64000001 by omega)) (zJ hj) (hK j hj)) (by omega)
 obtain⟨j,hj,rfl⟩:=uj.1 hn
 have hj:=Cb.1 hj
 exact b3l hj (a3t hj0 (YN (ZT _ _) (zJ hj0) hx0)) (hN j hj)
theorem whT {P:List Int} {i:Nat} (hi:i<P.length):(P.map fun n=>dR n).take i++[dR (P.getD i 0)]=(P.map fun n=>dR n).take (i+1):=by
 rw[Dh,tq,dw hi,dn,dw hi];rfl
theorem KZ (n:Int):Rat.divInt n 1=dR n:=by
 rw[show (1:Int)=((1:Nat):Int) from rfl,Rat.divInt_ofNat];exact Rat.mkRat_one n
noncomputable def c0u:Ctr:=⟨[tZ],[tQ],fun x=>isz x.1<=390000000,fun x=>(dR x.1,())⟩
theorem b0A:aS Tryz.prog 150 c0u:=by
 refine bH ((nil0.ad b1K).ad b9G) ⟨[2,3],[],[]⟩ Tryz.func150 rfl (by decide) (fun x=>[]) (fun x hp=>?_)
 obtain⟨n,u⟩:=x
 change Int at n
 refine dD ((gB 1/\(isz n<=1000000000/\isz 1<=1000000000)/\True)/\(asT Bool true=true/\True)/\Rat.divInt n 1=dR n/\True) (by kernel_rfl) ?_
 have hZ:(⟨false,0,[],[]⟩:aG)=bM:=rfl
 try simp only[aO,ay,ak]
 try dsimp only[aB,asT,aA,aJ,Ty.den,Lf.den] at *
 try simp only[hZ,Int.toNat_natCast,aO,ay,ak,ni,lg,jc,iq]
 try simp only[fU,fQ,List.all_cons,List.all_nil,oq,iw,jo,jh,ql,ne_eq,aj,je,jf,jl,mg,vw,qg,wu,ni,lg,jw,iy,List.length_cons,List.length_nil]
 have hp:isz n<=390000000:=hp
 exact⟨⟨⟨by omega,by omega⟩,by omega,by rw[show isz 1=1 by decide +kernel];omega⟩,(KZ n)⟩
theorem i9T {l:LQ'} (h:l.length=9) {i:Nat} (h9:i<=9) (hi:¬ (i:Int)<((qI l).length:Int)):(((qI l).map fun n=>dR n).take i)=(qI l).map fun n=>dR n:=jg (by rw[xw];omega)
def a6v {α:Type} (l:List α):List (List α):=[l.take 3,(l.take 6).drop 3,l.drop 6]
def TM (l:LQ'):MQ:=a6v ((qI l).map fun n=>dR n)
noncomputable def b9U:Ctr:=⟨[.list tQ],[tM],fun x=>GK x.1/\(show LQ' from x.1).length=9,fun x=>(TM x.1,())⟩
theorem a8c:aS Tryz.prog 62 b9U:=by
 refine bH ((nil0.ad b3n).ad b0A) ⟨[5],[],[]⟩ Tryz.func62 rfl (by decide) (fun x=>[.inv {k:Nat // k<=9} (fun k=>[(9,.val tI (k.1:Int)),(3,.own 16 0),(16,.any)]) (fun k=>[(16,.row 47 tQ (((qI (show LQ' from x.1)).map fun n=>dR n).take k.1) 0)]) (fun k=>9-k.1) ⟨0,by omega⟩ (fun _=>[])]) (fun x hp=>?_)
 obtain⟨l,u⟩:=x
 change List Rat at l
 refine dD (let A₀:=(List.map (fun(n:Int)=>dR n) (qI l));(GK l/\True)/\(asT Int 0=0/\(True/\asT (List Rat) (aJ Rat)=aJ Rat)/\(asT (List Rat) (aJ Rat)=aJ Rat/\0=0/\asT Bool true=true)/\True)/\∀ (i:{ k:Nat // k<=9 }),let A₁:=(List.take (aA i) A₀);let A₂:=(List.getD (qI l) (aB (aA i)).toNat 0);asT Bool true=true/\ifB (decide (aB (aA i)<aB (qI l).length)) ((0<=aB (aA i)/\aB (aA i)<aB (qI l).length/\True)/\(isz A₂<=390000000/\List.length A₁+List.length (dR A₂::aJ Rat)<=1000000000/\True)/\∃ (i':{ k:Nat // k<=9 }),9-aA i'<9-aA i/\IntKind.wrap IntKind.i64 (aB (aA i)+1)=aB (aA i')/\List.take (aA i) A₀++dR A₂::aJ Rat=List.take (aA i') A₀/\True) ((asT Int 0<=0/\asT Int 0<=3/\asT Int 3<=3/\3<=aB A₁.length/\asT Int 0<=3/\asT Int 3<=6/\asT Int 6<=6/\6<=aB A₁.length/\asT Int 0<=6/\6<=aB A₁.length/\aB A₁.length<=aB A₁.length/\True)/\True/\List.drop 0 (List.take 3 A₁)::List.drop 3 (List.take 6 A₁)::List.drop 6 (List.take (aB A₁.length).toNat A₁)::aJ (List Rat)=TM l/\True)) (by kernel_rfl) ?_
 have hZ:(⟨false,0,[],[]⟩:aG)=bM:=rfl
 try simp only[aO,ay,ak]
 try dsimp only[aB,asT,aA,aJ,Ty.den,Lf.den] at *
 try simp only[hZ,Int.toNat_natCast,aO,ay,ak,ni,lg,jc,iq]
 try simp only[fU,fQ,List.all_cons,List.all_nil,oq,iw,jo,jh,ql,ne_eq,aj,je,jf,jl,mg,vw,qg,wu,ni,lg,jw,iy,List.length_cons,List.length_nil]
 obtain⟨hp,h9⟩:GK l/\l.length=9:=hp
 have hl:=RU l
 refine⟨hp,fun i=>⟨fun h1=>⟨⟨by omega,h1⟩,⟨dh (aV (a5u hp) (by omega)) (by omega),by rw[jy];omega⟩,⟨i.1+1,by omega⟩,by simp only;omega,by rw[bI (by omega) (by omega)];rfl,whT (by omega)⟩,fun h1=>?_⟩⟩
 rw[i9T h9 i.2 h1,xw,hl,h9]
 refine⟨by omega,?_⟩
 unfold TM a6v
 rw[List.drop_zero,jg (i:=9) (by rw[xw];omega)]
noncomputable def c0B:Ctr:=⟨[.list tQ],[tM],fun x=>(show LQ' from x.1).length=9,fun x=>(a6v (show LQ' from x.1),())⟩
theorem b1m:aS Tryz.prog 120 c0B:=by
 refine bH Lib.nil ⟨[],[],[]⟩ Tryz.func120 rfl (by decide) (fun x=>[]) (fun x hp=>?_)
 obtain⟨l,u⟩:=x
 change List Rat at l
 refine dD ((asT Int 0<=0/\asT Int 0<=3/\asT Int 3<=3/\3<=aB l.length/\asT Int 0<=3/\asT Int 3<=6/\asT Int 6<=6/\6<=aB l.length/\asT Int 0<=6/\asT Int 6<=9/\asT Int 9<=9/\9<=aB l.length/\True)/\True/\List.drop 0 (List.take 3 l)::List.drop 3 (List.take 6 l)::List.drop 6 (List.take 9 l)::aJ (List Rat)=a6v l/\True) (by kernel_rfl) ?_
 have hZ:(⟨false,0,[],[]⟩:aG)=bM:=rfl
 try simp only[aO,ay,ak]
 try dsimp only[aB,asT,aA,aJ,Ty.den,Lf.den] at *
 try simp only[hZ,Int.toNat_natCast,aO,ay,ak,ni,lg,jc,iq]
 try simp only[fU,fQ,List.all_cons,List.all_nil,oq,iw,jo,jh,ql,ne_eq,aj,je,jf,jl,mg,vw,qg,wu,ni,lg,jw,iy,List.length_cons,List.length_nil]
 have hp:l.length=9:=hp
 refine⟨by omega,?_⟩
 unfold a6v
 rw[List.drop_zero,jg (i:=9) (by omega)]
noncomputable def b9W:Ctr:=⟨[tM],[tM],fun x=>m33 1000000 x.1/\∃ q ∈ (show MQ from x.1).flatten,q≠0,fun x=>(TM (show MQ from x.1).flatten,())⟩
theorem a8d:aS Tryz.prog 39 b9W:=by
 refine bH ((((nil0.ad b1L).ad a9O).ad a1d).ad b1m) ⟨[5],[],[(18,tQ)]⟩ Tryz.func39 rfl (by decide) (fun x=>[.inv {k:Nat // k<=9} (fun k=>[(10,.val tI (k.1:Int)),(3,.own 18 0),(18,.any)]) (fun k=>[(18,.row 47 tQ (((qI (show MQ from x.1).flatten).map fun n=>dR n).take k.1) 0)]) (fun k=>9-k.1) ⟨0,by omega⟩ (fun _=>[])]) (fun x hp=>?_)
 obtain⟨f,u⟩:=x
 change List (List Rat) at f
 refine dD (let A₁:=(fun(x:Ty.den (Ty.pair (Ty.lf Lf.big) (Ty.pair (Ty.lf Lf.big) Ty.unit)))=>Rat.divInt (asT Int x.1) (asT Int x.2.1));let A₂:=(qI (List.flatten f));let A₀:=(List.map (fun(n:Int)=>dR n) A₂);((List.length f<=1000/\∀ (r:List Rat),r ∈ f->List.length r<=1000)/\GK (List.flatten f)/\True)/\(asT Int 0=0/\(True/\asT (List Rat) (aJ Rat)=aJ Rat)/\(asT (List Rat) (aJ Rat)=aJ Rat/\0=0/\asT Bool true=true)/\True)/\∀ (i:{ k:Nat // k<=9 }),let eU:=(List.take (aA i) A₀);let gQ:=((List.getD A₂ (aB (aA i)).toNat 0,1,())::aJ (Int × Int × PUnit));asT Bool true=true/\ifB (decide (aB (aA i)<aB A₂.length)) ((0<=aB (aA i)/\aB (aA i)<aB A₂.length/\True)/\(gB 1/\List.length eU+List.length (List.map A₁ gQ)<=1000000000/\((asT Int 0<1/\Int.gcd (List.getD A₂ (aB (aA i)).toNat 0) 1=1/\True)/\True)/\True)/\∃ (i':{ k:Nat // k<=9 }),9-aA i'<9-aA i/\IntKind.wrap IntKind.i64 (aB (aA i)+1)=aB (aA i')/\List.take (aA i) A₀++List.map A₁ gQ=List.take (aA i') A₀/\True) ((List.length eU=9/\True)/\True/\List.take 3 eU::List.drop 3 (List.take 6 eU)::List.drop 6 eU::aJ (List Rat)=TM (List.flatten f)/\True)) (by kernel_rfl) ?_
 have hZ:(⟨false,0,[],[]⟩:aG)=bM:=rfl
 try simp only[aO,ay,ak]
 try dsimp only[aB,asT,aA,aJ,Ty.den,Lf.den] at *
 try simp only[hZ,Int.toNat_natCast,aO,ay,ak,ni,lg,jc,iq]
 try simp only[fU,fQ,List.all_cons,List.all_nil,oq,iw,jo,jh,ql,ne_eq,aj,je,jf,jl,mg,vw,qg,wu,ni,lg,jw,iy,List.length_cons,List.length_nil]
 obtain⟨hf,hq⟩:m33 1000000 f/\∃ q ∈ f.flatten,q≠0:=hp
 have h9:=hf.flat.1
 have hp:GK f.flatten:=⟨by omega,hf.flat.2,hq⟩
 have hl:=RU f.flatten
 have h3:=hf.1.len
 refine⟨⟨⟨by omega,fun r hr=>by have:=hf.1.2.1 r hr;omega⟩,hp⟩,fun i=>⟨fun h1=>⟨⟨by omega,h1⟩,⟨⟨by omega,by omega⟩,by rw[jy];show _+1<=_;omega,by omega,Int.gcd_one_right _⟩,⟨i.1+1,by omega⟩,by simp only;omega,by rw[bI (by omega) (by omega)];rfl,?_⟩,fun h1=>?_⟩⟩
 ·show _++[Rat.divInt _ 1]=_
  rw[KZ]
  exact whT (by omega)
 ·rw[i9T h9 i.2 h1]
  refine⟨by rw[xw,hl,h9],rfl⟩
end Go.Proofs.YtbkocjmmbkifjaaGreat
