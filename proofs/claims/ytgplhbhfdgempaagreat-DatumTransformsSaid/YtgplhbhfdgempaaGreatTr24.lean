/-
  Lemmas for the theorem vtransforms_holds, part 24 of 39.
-/
import Derived.Test.YtgplhbhfdgempaaGreatTr23
namespace Go.Proofs.YtgplhbhfdgempaaGreat
open Go Go.RowKit
theorem Ed:type_of% @Tryz.func110:=@Tryz.func110
def Cd (e:Mt) (R C K:Nat):Prop:=∃ D:Nat,0<D/\nsz D<=K/\∀ i,i<R->∀ j,j<C->∃ z:Int,e i j*(D:Nat)=(z:Int)/\isz z<=K
theorem a0C {D:Nat} (h:0<D):((D:Nat):Rat)≠0:=fun h1=>by
 have:((D:Nat):Rat)=((0:Nat):Rat):=h1
 have:=Rat.natCast_inj.mp this;omega
theorem Cd.rsz {e:Mt} {R C K:Nat} (H:Cd e R C K) {i j:Nat} (h1:i<R) (h2:j<C):rsz (e i j)<=K:=by
 obtain⟨D,h0,hD,h⟩:=H
 obtain⟨z,hz,hs⟩:=h i h1 j h2
 have e1:e i j=Rat.divInt z D:=by
  rw[Rat.divInt_eq_div,<-hz,Rat.div_def]
  have:((D:Int):Rat)=((D:Nat):Rat):=Rat.intCast_natCast D
  rw[this,Rat.mul_assoc,Rat.mul_inv_cancel _ (a0C h0)];grind
 rw[e1]
 exact zJ _ _ (by omega) hs (by unfold isz;simpa using hD)
theorem Cd.mono {e:Mt} {R C K L:Nat} (H:Cd e R C K) (h:K<=L):Cd e R C L:=by
 obtain⟨D,h0,hD,hh⟩:=H
 exact⟨D,h0,by omega,fun i h1 j h2=>by obtain⟨z,hz,hs⟩:=hh i h1 j h2;exact⟨z,hz,by omega⟩⟩
theorem Cd.congr {e f:Mt} {R C K:Nat} (H:Cd e R C K) (h:∀ i,i<R->∀ j,j<C->f i j=e i j):Cd f R C K:=by
 obtain⟨D,h0,hD,hh⟩:=H
 exact⟨D,h0,hD,fun i h1 j h2=>by rw[h i h1 j h2];exact hh i h1 j h2⟩
theorem Cd.tr {e:Mt} {R C K:Nat} (H:Cd e R C K):Cd (tr e) C R K:=by
 obtain⟨D,h0,hD,hh⟩:=H
 exact⟨D,h0,hD,fun i h1 j h2=>hh j h2 i h1⟩
theorem b4K {f:Nat->Rat} {D K:Nat}:∀ n,(∀ k,k<n->∃ z:Int,f k*(D:Nat)=(z:Int)/\isz z<=K)->∃ z:Int,sm n f*(D:Nat)=(z:Int)/\isz z<=K+n
 | 0,_=>⟨0,by show (0:Rat)*_=_;rw[Rat.zero_mul];rfl,by rw[KF];omega⟩
 | n+1,h=>by
  have ⟨z,h1,h2⟩:=b4K n (fun k hk=>h k (by omega))
  have ⟨y,h3,h4⟩:=h n (by omega)
  refine⟨z+y,?_,by have:=EW z y;omega⟩
  show (sm n f+f n)*_=_
  rw[Rat.intCast_add,<-h1,<-h3];grind
theorem uY (a b:Nat):((a*b:Nat):Rat)=(a:Rat)*(b:Rat):=Rat.natCast_mul a b
theorem Cd.mm {a b:Mt} {R n C K L:Nat} (H:Cd a R n K) (G:Cd b n C L):Cd (mm n a b) R C (K+L+n):=by
 obtain⟨D,h0,hD,hh⟩:=H
 obtain⟨E,g0,gD,gg⟩:=G
 refine⟨D*E,Nat.mul_pos h0 g0,by have:=wB D E;omega,fun i hi j hj=>b4K n fun k hk=>?_⟩
 obtain⟨z,h1,h2⟩:=hh i hi k hk
 obtain⟨y,h3,h4⟩:=gg k hk j hj
 exact⟨z*y,by rw[zu,<-h1,<-h3,uY];grind,by have:=eH z y;omega⟩
theorem Cd.two {a b:Mt} {R C K L:Nat} (H:Cd a R C K) (G:Cd b R C L) (s:Int) (hs:s=1\/s=-1):Cd (fun i j=>a i j+s*b i j) R C (K+L+1):=by
 obtain⟨D,h0,hD,hh⟩:=H
 obtain⟨E,g0,gD,gg⟩:=G
 refine⟨D*E,Nat.mul_pos h0 g0,by have:=wB D E;omega,fun i hi j hj=>?_⟩
 obtain⟨z,h1,h2⟩:=hh i hi j hj
 obtain⟨y,h3,h4⟩:=gg i hi j hj
 refine⟨z*E+s*(y*D),?_,?_⟩
 ·rw[Rat.intCast_add,zu,zu,zu,<-h1,<-h3,uY,Rat.intCast_natCast,Rat.intCast_natCast];grind
 ·have a1:=eH z E;have a2:=eH y D
  have a3:isz ((E:Nat):Int)<=L:=by unfold isz;simpa using gD
  have a4:isz ((D:Nat):Int)<=K:=by unfold isz;simpa using hD
  have a5:=EW (z*E) (s*(y*D))
  have a6:isz (s*(y*D))=isz (y*D):=by
   rcases hs with h|h
   ·rw[h,Int.one_mul]
   ·rw[h,Int.neg_one_mul,nJ]
  omega
theorem Cd.add {a b:Mt} {R C K L:Nat} (H:Cd a R C K) (G:Cd b R C L):Cd (ma a b) R C (K+L+1) :=
 (H.two G 1 (Or.inl rfl)).congr fun i _ j _=>by show a i j+b i j=a i j+((1:Int):Rat)*b i j;rw[show ((1:Int):Rat)=1 from rfl];grind
theorem Cd.sub {a b:Mt} {R C K L:Nat} (H:Cd a R C K) (G:Cd b R C L):Cd (ms a b) R C (K+L+1) :=
 (H.two G (-1) (Or.inr rfl)).congr fun i _ j _=>by show a i j-b i j=a i j+((-1:Int):Rat)*b i j;rw[show ((-1:Int):Rat)=-1 from rfl];grind
theorem Cd.idm (R C:Nat):Cd idm R C 1:=by
 refine⟨1,by omega,yT (x:=(1:Int)) (k:=1) (by unfold BB;decide),fun i _ j _=>⟨if i=j then 1 else 0,?_,?_⟩⟩
 ·show (if i=j then (1:Rat) else 0)*((1:Nat):Rat)=((if i=j then (1:Int) else 0:Int):Rat)
  rw[show ((1:Nat):Rat)=1 from rfl,Rat.mul_one]
  by_cases h:i=j
  ·rw[gy h,gy h];rfl
  ·rw[ig h,ig h];rfl
 ·split
  ·exact yT (by unfold BB;decide)
  ·rw[KF];omega
theorem Cd.bes {a b:Mt} {R n C K L:Nat} (H:Cd a R n K) (G:Cd b R C L):Cd (gG n a b) R (n+C) (K+L):=by
 obtain⟨D,h0,hD,hh⟩:=H
 obtain⟨E,g0,gD,gg⟩:=G
 have a3:isz ((E:Nat):Int)<=L:=by unfold isz;simpa using gD
 have a4:isz ((D:Nat):Int)<=K:=by unfold isz;simpa using hD
 refine⟨D*E,Nat.mul_pos h0 g0,by have:=wB D E;omega,fun i hi j hj=>?_⟩
 unfold gG
 by_cases h:j<n
 ·obtain⟨z,h1,h2⟩:=hh i hi j h
  refine⟨z*E,?_,by have:=eH z E;omega⟩
  rw[gy h,zu,<-h1,uY,Rat.intCast_natCast];grind
 ·obtain⟨z,h1,h2⟩:=gg i hi (j-n) (by omega)
  refine⟨z*D,?_,by have:=eH z D;omega⟩
  rw[ig h,zu,<-h1,uY,Rat.intCast_natCast];grind
theorem Cd.step {e:Mt} {R C K r k j:Nat} (H:Cd e R C K) (hr:r<R) (hk:k<R) (hj:j<C) (hz:e k j≠0):Cd (kK e r k j) R C (2*K+1):=by
 obtain⟨D,h0,hD,hh⟩:=H
 obtain⟨p,p1,p2⟩:=hh k hk j hj
 have a4:isz ((D:Nat):Int)<=K:=by unfold isz;simpa using hD
 have hsw:∀ i,i<R->∀ c,c<C->∃ z:Int,iO e r k i c*(D:Nat)=(z:Int)/\isz z<=K:=fun i hi c hc=>by
  unfold iO;split
  ·exact hh k hk c hc
  ·split
   ·exact hh r hr c hc
   ·exact hh i hi c hc
 have hp:p≠0:=fun h=>by
  rw[h] at p1
  have h3:e k j*(D:Nat)=0:=p1
  have h2:=a0C h0
  have:e k j*(D:Nat)*((D:Nat):Rat)⁻¹=e k j:=by rw[Rat.mul_assoc,Rat.mul_inv_cancel _ h2];grind
  rw[h3] at this;exact hz (by rw[<-this];grind)
 have hpR:(p:Rat)≠0:=fun h=>hp (Rat.intCast_inj.mp h)
 have hpa:((p.natAbs:Nat):Rat)=(p.sign:Rat)*p:=by
  rw[<-Rat.intCast_natCast,<-zu,show p.sign*p=(p.natAbs:Int) by rw[Int.sign_mul_self]]
 have hs:isz p.sign<=1:=by
  refine yT ?_
  have:=Int.natAbs_sign_of_ne_zero hp;rw[this];unfold BB;decide
 have hsm:∀ y:Int,isz (p.sign*y)=isz y:=fun y=>by
  rcases Ae p 0 with h|h|h
  ·rw[uz h,Int.neg_one_mul,nJ]
  ·exact absurd h hp
  ·rw[vw h,Int.one_mul]
 refine⟨D*p.natAbs,Nat.mul_pos h0 (Int.natAbs_pos.mpr hp),by have:=wB D p.natAbs;unfold isz at p2;omega,fun i hi c hc=>?_⟩
 obtain⟨y,y1,y2⟩:=hh k hk c hc
 have hdv:e k c / e k j*p=y:=by
  rw[<-p1,<-y1,Rat.div_def]
  have:=Rat.mul_inv_cancel _ hz;grind
 unfold kK
 by_cases h:i=r
 ·refine⟨p.sign*(y*D),?_,by rw[hsm];have:=eH y D;omega⟩
  rw[gy h,uY,hpa,zu,zu,Rat.intCast_natCast,<-hdv];grind
 ·obtain⟨z,z1,z2⟩:=hsw i hi c hc
  obtain⟨x,x1,x2⟩:=hsw i hi j hj
  refine⟨p.sign*(z*p-x*y),?_,?_⟩
  ·rw[ig h,uY,hpa,zu,Rat.intCast_sub,zu,zu,<-z1,<-x1,<-hdv];grind
  ·rw[hsm];have b1:=a0v (z*p) (x*y);have b2:=eH z p;have b3:=eH x y;omega
theorem Cd.red {e:Mt} {R C K:Nat} (H:Cd e R C K):∀ n,n<=C->Cd (red R e n).1 R C (2 ^ n*(K+1)-1)
 | 0,_=>H.mono (by omega)
 | n+1,hn=>by
  have ih:=Cd.red H n (by omega)
  have E:=iL R e n
  rw[UH]
  have ⟨k1,k2⟩:=XH (Proofs.YtgplhbhfdgempaaGreat.red R e n).1 n (R-(Proofs.YtgplhbhfdgempaaGreat.red R e n).2.length) (Proofs.YtgplhbhfdgempaaGreat.red R e n).2.length
  have k4:=a1S (Proofs.YtgplhbhfdgempaaGreat.red R e n).1 n (R-(Proofs.YtgplhbhfdgempaaGreat.red R e n).2.length) (Proofs.YtgplhbhfdgempaaGreat.red R e n).2.length
  have hle:=E.le
  split
  ·exact ih.mono (by have:=jq (K+1) (wz (show 0<2 by omega) (show n<=n+1 by omega));omega)
  ·rename_i h
   refine(ih.step (r:=(Proofs.YtgplhbhfdgempaaGreat.red R e n).2.length) (by omega) (by omega) (show n<C by omega) (k4 (by omega))).mono ?_
   have h1:0<2 ^ n*(K+1):=Nat.mul_pos (Nat.pow_pos (by omega)) (by omega)
   rw[Nat.pow_succ,wu (2 ^ n) 2,Nat.mul_assoc];omega
def pd:Nat->(Nat->Nat)->Nat
 | 0,_=>1
 | n+1,f=>pd n f*f n
theorem a4s {f:Nat->Nat}:∀ n,(∀ k,k<n->0<f k)->0<pd n f
 | 0,_=>Nat.one_pos
 | n+1,h=>Nat.mul_pos (a4s n (fun k hk=>h k (by omega))) (h n (by omega))
theorem a4q {f:Nat->Nat} {k:Nat}:∀ n,k<n->f k ∣ pd n f
 | 0,h=>by omega
 | n+1,h=>by
  show f k ∣ pd n f*f n
  by_cases e:k=n
  ·rw[e];exact Nat.dvd_mul_left _ _
  ·exact Nat.dvd_trans (a4q n (by omega)) (Nat.dvd_mul_right _ _)
theorem a4r {f:Nat->Nat} {K:Nat}:∀ n,(∀ k,k<n->nsz (f k)<=K)->nsz (pd n f)<=n*K+1
 | 0,_=>by
  have:isz ((1:Nat):Int)<=1:=yT (by unfold BB;decide)
  show nsz 1<=_;unfold isz at this;simp at this;omega
 | n+1,h=>by
  have h1:=a4r n (fun k hk=>h k (by omega))
  have h2:=h n (by omega)
  have h3:=wB (pd n f) (f n)
  show nsz (pd n f*f n)<=_;rw[Ah];omega
theorem Cd.of {e:Mt} {R C:Nat} (h:∀ i,i<R->∀ j,j<C->Proofs.YtgplhbhfdgempaaGreat.rsz (e i j)<=1):Cd e R C (R*(C+1)+2):=by
 have hp:0<pd R (fun i=>pd C (fun j=>(e i j).den)):=a4s R fun i _=>a4s C fun j _=>(e i j).den_pos
 have hn:nsz (pd R (fun i=>pd C (fun j=>(e i j).den)))<=R*(C+1)+1:=a4r R fun i hi=>by
  have:=a4r (f:=fun j=>(e i j).den) (K:=1) C fun j hj=>jg (Nat.le_max_right _ _) (h i hi j hj)
  omega
 refine⟨_,hp,by omega,fun i hi j hj=>?_⟩
 have ⟨q,hq⟩:(e i j).den ∣ pd R (fun i=>pd C (fun j=>(e i j).den)):=Nat.dvd_trans (a4q (f:=fun j=>(e i j).den) C hj) (a4q (f:=fun i=>pd C (fun j=>(e i j).den)) R hi)
 refine⟨(e i j).num*q,?_,?_⟩
 ·rw[hq,uY,zu,Rat.intCast_natCast]
  have h1:e i j*((e i j).den:Rat)=(e i j).num:=by
   have h2:=Rat.num_divInt_den (e i j)
   have h3:=Rat.inv_mul_cancel _ (a0C (e i j).den_pos)
   rw[Rat.divInt_eq_div,Rat.div_def,Rat.intCast_natCast] at h2
   generalize ((e i j).num:Rat)=x at *
   generalize ((e i j).den:Rat)=y at *
   rw[<-h2,Rat.mul_assoc,h3,Rat.mul_one]
  rw[<-h1];grind
 ·have a1:=eH (e i j).num q
  have a2:isz (e i j).num<=1:=jg (Nat.le_max_left _ _) (h i hi j hj)
  have a3:nsz q<=R*(C+1)+1:=jg (KL (by rw[hq];exact Nat.le_mul_of_pos_left _ (e i j).den_pos)) hn
  have a4:isz ((q:Nat):Int)<=R*(C+1)+1:=by unfold isz;simpa using a3
  omega
set_option maxRecDepth 100000
set_option maxHeartbeats 1000000
set_option linter.unusedVariables false
set_option linter.unusedSimpArgs false
theorem VA {f:Nat->Rat} {K:Nat}:∀ n,(∀ i,i<n->rsz (f i)<=K)->rsz (sm n f)<=n*(K+1)+1
 | 0,_=>by show rsz 0<=_;rw[show rsz 0=1 by decide +kernel];omega
 | n+1,h=>by
  have h1:=VA n (fun i hi=>h i (by omega))
  have h2:=h n (by omega)
  have h3:=a6w (sm n f) (f n)
  show rsz (sm n f+f n)<=_
  rw[Ah];omega
def GZ (x y:LQ') (k:Nat):Rat:=sm k fun i=>lv x i*lv y i
def a1H (x y:LQ'):Prop:=x.length=y.length/\x.length<=64/\∀ i,i<x.length->rsz (lv x i)<=1000000/\rsz (lv y i)<=1000000
theorem a9b {x y:LQ'} (h:a1H x y) {k:Nat} (hk:k<=x.length):rsz (GZ x y k)<=200000000:=by
 have h1:=VA (K:=2000000) (f:=fun i=>lv x i*lv y i) k (fun i hi=>by
  have ⟨a,b⟩:=h.2.2 i (by omega)
  have:=tK (lv x i) (lv y i);show rsz (lv x i*lv y i)<=_;omega)
 have h2:=h.2.1
 have:k*(2000000+1)<=64*2000001:=uf (by omega) (by omega)
 show rsz (sm k _)<=_
 omega
theorem oZ {x:Rat}:sgn x.num=0↔x=0:=⟨fun h=>Rat.num_eq_zero.mp (Int.sign_eq_zero_iff_zero.1 h),fun h=>by rw[h];rfl⟩
def c0K:Ctr:=⟨[.list tQ,.list tQ],[tQ],fun x=>a1H x.1 x.2.1,fun x=>(GZ x.1 x.2.1 (show LQ' from x.1).length,())⟩
theorem a1G:aW Tryz.prog 112 c0K:=by
 refine lF ((((nil0.ad a6Q).ad b5k).ad b2i).ad a3y) [4,5,7] Tryz.func112 rfl (by decide) (fun x=>[.inv {k:Nat // k<=(show LQ' from x.1).length} (fun k=>[(11,.val tI (k.1:Int))]) (fun k=>[(4,.box [⟨tR,cO⟩]),(5,.box [⟨tQ,GZ x.1 x.2.1 k.1⟩])]) (fun k=>(show LQ' from x.1).length-k.1) ⟨0,by omega⟩ (fun _=>[])]) (fun x hp=>?_)
 obtain⟨x,y,u⟩:=x
 change List Rat at x
 change List Rat at y
 refine bM ((iY 0/\True)/\(asT Int 0=0/\asT aF { ok:=false,x:=0,g:=aC Nat,h:=aC Nat }=cO/\eP 0=GZ x y 0/\True)/\∀ (i:{ k:Nat // k<=List.length x }),let A₁:=(aB (aA i)).toNat;let A₂:=(Rat.num (List.getD x A₁ 0));let A₀:=((sgn A₂ != 0)==true);let aQ:=(A₀=true->A₀=true/\True);asT Bool true=true/\ifB (decide (aB (aA i)<aB x.length)) ((0<=aB (aA i)/\aB (aA i)<aB x.length/\True)/\(rsz (List.getD x A₁ 0)<=1000000000/\(A₀=true->A₀=true/\A₀=true/\0<=aB (aA i)/\aB (aA i)<aB y.length/\True)/\aQ/\(A₀=true->A₀=true/\rsz (List.getD y A₁ 0)<=1000000000/\True)/\aQ/\((sgn A₂ != 0)=true->A₀=true)/\True)/\ifB (bif sgn A₂ != 0 then sgn (Rat.num (List.getD y A₁ 0)) != 0 else false) ((0<=aB (aA i)/\aB (aA i)<aB y.length/\s44 (List.getD x A₁ 0) (List.getD y A₁ 0)/\s44 (GZ x y (aA i)) (List.getD x A₁ 0*List.getD y A₁ 0)/\True)/\∃ (i':{ k:Nat // k<=List.length x }),List.length x-aA i'<List.length x-aA i/\IntKind.wrap IntKind.i64 (aB (aA i)+1)=aB (aA i')/\asT aF cO=cO/\GZ x y (aA i)+List.getD x A₁ 0*List.getD y A₁ 0=GZ x y (aA i')/\True) (∃ (i':{ k:Nat // k<=List.length x }),List.length x-aA i'<List.length x-aA i/\IntKind.wrap IntKind.i64 (aB (aA i)+1)=aB (aA i')/\asT aF cO=cO/\GZ x y (aA i)=GZ x y (aA i')/\True)) (True/\GZ x y (aA i)=GZ x y x.length/\True)) (by kernel_rfl) ?_
 have hp:a1H x y:=hp
 have hZ:(⟨false,0,[],[]⟩:aF)=cO:=rfl
 dsimp only[aB,asT,aA,aC] at *
 simp only[hZ,Int.toNat_natCast,aU,ay,au,ni,mg]
 have hs:=fun k (hk:k<=x.length)=>a9b hp hk
 obtain⟨hl,h64,hr⟩:=hp
 refine⟨by unfold iY;omega,rfl,fun i=>⟨fun h1=>?_,fun h1=>?_⟩⟩
 ·have hi:i.1<x.length:=by omega
  have a1:rsz (x.getD i.1 0)<=1000000:=(hr i.1 hi).1
  have a2:rsz (y.getD i.1 0)<=1000000:=(hr i.1 hi).2
  have a3:=hs i.1 i.2
  have a4:=tK (x.getD i.1 0) (y.getD i.1 0)
  refine⟨⟨by omega,h1⟩,⟨by omega,fun h=>⟨h,h,by omega,by omega⟩,fun h=>h,fun h=>⟨h,by omega⟩,fun h=>h,fun h=>by rw[h];rfl⟩,fun h=>⟨⟨by omega,by omega,⟨by omega,by omega⟩,by omega,by omega⟩,⟨i.1+1,by omega⟩,by simp only;omega,by rw[aZ (by omega) (by omega)];rfl,rfl⟩,fun h=>⟨⟨i.1+1,by omega⟩,by simp only;omega,by rw[aZ (by omega) (by omega)];rfl,?_⟩⟩
  have hz:x.getD i.1 0*y.getD i.1 0=0:=by
   by_cases hx:sgn (x.getD i.1 0).num=0
   ·have h9:x.getD i.1 0=0:=oZ.mp hx
    rw[h9];grind
   ·rw[show (sgn (x.getD i.1 0).num != 0)=true from vk.mpr hx] at h
    have h:(sgn (y.getD i.1 0).num != 0)=false:=h
    have h9:y.getD i.1 0=0:=oZ.mp (by simpa using h)
    rw[h9];grind
  show sm i.1 _=sm i.1 _+x.getD i.1 0*y.getD i.1 0
  rw[hz];grind
 ·have:i.1=x.length:=by have:=i.2;omega
  rw[this]
abbrev TCo:List Ty:=[.ref tM]
def b3J (c:(nest TCo).den) (i j:Int):Prop:=0<=i/\i.toNat<(show MQ from c.1).length/\0<=j/\j.toNat<((show MQ from c.1).getD i.toNat []).length
def gCo (c:(nest TCo).den) (i j:Nat):Rat:=ent c.1 i j
theorem XA:aW Tryz.prog 167 (ZU TCo b3J gCo):=by
 refine lF nil0 [5] Tryz.func167 rfl (by decide) (fun x=>[]) (fun x hp=>?_)
 obtain⟨i,j,c⟩:=x
 change Int at i
 change Int at j
 obtain⟨a,u⟩:=c
 change List (List Rat) at a
 refine bM ((0<=i/\i<aB a.length/\0<=j/\j<aB (List.getD a i.toNat (aC Rat)).length/\True)/\True/\List.getD (List.getD a i.toNat (aC Rat)) j.toNat 0=ent a i.toNat j.toNat/\True) (by kernel_rfl) ?_
 try dsimp only[aB,asT,aA,aC] at *
 have h1:0<=i/\i.toNat<a.length/\0<=j/\j.toNat<(a.getD i.toNat []).length:=hp
 exact⟨⟨h1.1,by omega,h1.2.2.1,by omega,trivial⟩,trivial,rfl,trivial⟩
abbrev TTu:List Ty:=[.ref tM]
def b3N (c:(nest TTu).den) (i j:Int):Prop:=0<=i/\0<=j/\j.toNat<(show MQ from c.1).length/\i.toNat<((show MQ from c.1).getD j.toNat []).length
def gTu (c:(nest TTu).den) (i j:Nat):Rat:=ent c.1 j i
theorem XE:aW Tryz.prog 140 (ZU TTu b3N gTu):=by
 refine lF nil0 [5] Tryz.func140 rfl (by decide) (fun x=>[]) (fun x hp=>?_)
 obtain⟨i,j,c⟩:=x
 change Int at i
 change Int at j
 obtain⟨a,u⟩:=c
 change List (List Rat) at a
 refine bM ((0<=j/\j<aB a.length/\0<=i/\i<aB (List.getD a j.toNat (aC Rat)).length/\True)/\True/\List.getD (List.getD a j.toNat (aC Rat)) i.toNat 0=ent a j.toNat i.toNat/\True) (by kernel_rfl) ?_
 try dsimp only[aB,asT,aA,aC] at *
 have h1:0<=i/\0<=j/\j.toNat<a.length/\i.toNat<(a.getD j.toNat []).length:=hp
 exact⟨⟨h1.2.1,by omega,h1.1,by omega,trivial⟩,trivial,rfl,trivial⟩
abbrev TMu:List Ty:=[.ref tM,.ref tM]
def b3L (c:(nest TMu).den) (i j:Int):Prop:=0<=i/\i.toNat<(show MQ from c.1).length/\0<=j/\j.toNat<(show MQ from c.2.1).length/\a1H ((show MQ from c.1).getD i.toNat []) ((show MQ from c.2.1).getD j.toNat [])
def gMu (c:(nest TMu).den) (i j:Nat):Rat:=GZ ((show MQ from c.1).getD i []) ((show MQ from c.2.1).getD j []) ((show MQ from c.1).getD i []).length
theorem XC:aW Tryz.prog 111 (ZU TMu b3L gMu):=by
 refine lF (nil0.ad a1G) [6] Tryz.func111 rfl (by decide) (fun x=>[]) (fun x hp=>?_)
 obtain⟨i,j,c⟩:=x
 change Int at i
 change Int at j
 obtain⟨a,b,u⟩:=c
 change List (List Rat) at a
 change List (List Rat) at b
 refine bM ((0<=i/\i<aB a.length/\0<=j/\j<aB b.length/\a1H (List.getD a i.toNat (aC Rat)) (List.getD b j.toNat (aC Rat))/\True)/\True/\GZ (List.getD a i.toNat (aC Rat)) (List.getD b j.toNat (aC Rat)) (List.getD a i.toNat (aC Rat)).length=gMu (a,b,u) i.toNat j.toNat/\True) (by kernel_rfl) ?_
 try dsimp only[aB,asT,aA,aC] at *
 have h1:0<=i/\i.toNat<a.length/\0<=j/\j.toNat<b.length/\a1H (a.getD i.toNat []) (b.getD j.toNat []):=hp
 exact⟨⟨h1.1,by omega,h1.2.2.1,by omega,h1.2.2.2.2,trivial⟩,trivial,rfl,trivial⟩
theorem jP:NOk Tryz.prog 110 (KI 167 TCo b3J gCo):=by
 refine qB (nil0.ad XA) ⟨[],[],[(11,tR)]⟩ Ed rfl (by decide) (fun x=>tJ x.1 x.2.1 (gCo x.2.2.1)) (fun x hp=>?_)
 obtain⟨m,n,c,u⟩:=x
 obtain⟨R,C,hR,hC,r2,c2,hP⟩:=hp
 change m=(R:Int) at hR
 change n=(C:Int) at hC
 subst hR hC
 refine bM (uX R C (gCo c) (b3J c) (fun y=>aY R C (gCo c)=y)) (by kernel_rfl) ?_
 exact nM r2 c2 hP rfl
theorem jR:NOk Tryz.prog 110 (KI 140 TTu b3N gTu):=by
 refine qB (nil0.ad XE) ⟨[],[],[(11,tR)]⟩ Ed rfl (by decide) (fun x=>tJ x.1 x.2.1 (gTu x.2.2.1)) (fun x hp=>?_)
 obtain⟨m,n,c,u⟩:=x
 obtain⟨R,C,hR,hC,r2,c2,hP⟩:=hp
 change m=(R:Int) at hR
 change n=(C:Int) at hC
 subst hR hC
 refine bM (uX R C (gTu c) (b3N c) (fun y=>aY R C (gTu c)=y)) (by kernel_rfl) ?_
 exact nM r2 c2 hP rfl
theorem jQ:NOk Tryz.prog 110 (KI 111 TMu b3L gMu):=by
 refine qB (nil0.ad XC) ⟨[],[],[(11,tR)]⟩ Ed rfl (by decide) (fun x=>tJ x.1 x.2.1 (gMu x.2.2.1)) (fun x hp=>?_)
 obtain⟨m,n,c,u⟩:=x
 obtain⟨R,C,hR,hC,r2,c2,hP⟩:=hp
 change m=(R:Int) at hR
 change n=(C:Int) at hC
 subst hR hC
 refine bM (uX R C (gMu c) (b3L c) (fun y=>aY R C (gMu c)=y)) (by kernel_rfl) ?_
 exact nM r2 c2 hP rfl
theorem ZN (x:List Rat):dS (fun(x:Ty.den (Ty.lf Lf.rat))=>bY []) x:=kP.mpr fun _ _=>trivial
theorem tH (a:MQ):dS (fun(x:Ty.den (Ty.list (Ty.lf Lf.rat)))=>bY [dS (fun(x:Ty.den (Ty.lf Lf.rat))=>bY []) x]) a:=kP.mpr fun r _=>⟨ZN r,trivial⟩
theorem ifF {b:Bool} {p q:Prop} (h:b=false) (hq:q):ifB b p q:=by subst h;exact hq
theorem ifT {b:Bool} {p q:Prop} (h:b=true) (hp:p):ifB b p q:=by subst h;exact hp
theorem IW {x:Int} (h:x=0):(x != 0)=false:=by rw[h];rfl
theorem a5r {l:ML} (h:∀ a ∈ l,dK a=0):jC l=0:=by
 unfold jC
 rw[show l.any (fun a=>dK a != 0)=false from Ag.mpr fun a ha=>by rw[h a ha];decide];rfl
theorem okM.pos {a:MQ} (h:okM a):0<a.length:=by have:=h.1.2.2.1;omega
theorem okM.poz {a:MQ} (h:okM a):(0:Int)<(a.length:Int):=by have:=h.pos;omega
theorem okM.r64 {a:MQ} (h:okM a):a.length<=64:=h.1.2.2.2.1
theorem okM.c1 {a:MQ} (h:okM a):1<=wdM a:=h.1.2.2.2.2.1
theorem okM.c64 {a:MQ} (h:okM a):wdM a<=64:=h.1.2.2.2.2.2
theorem okM.row {a:MQ} (h:okM a) {i:Nat} (hi:i<a.length):(a.getD i []).length=wdM a:=h.1.row hi
def b3z:AO:=.mk LKm [tM] (fun x=>okM x.1) (fun x=>aY (show MQ from x.1).length (wdM (show MQ from x.1)) (ent x.1))
theorem a8X:NOk Tryz.prog 137 b3z:=by
 refine qB ((((nil0.ad XA).an jP).an jR).an jQ) ⟨[],[],[]⟩ Tryz.func137 rfl (by decide) (fun x=>[]) (fun x hp=>?_)
 obtain⟨a,u⟩:=x
 change List (List Rat) at a
 refine bM ((asT Int 0<=0/\0<aB a.length/\CX TCo b3J (aB a.length,aB (List.getD a 0 (aC Rat)).length,(a,()),())/\True)/\aY a.length (wdM a) (ent a)=aY (aB a.length).toNat (aB (List.getD a 0 (aC Rat)).length).toNat (gCo (a,()))) (by kernel_rfl) ?_
 have ha:okM a:=hp
 exact⟨⟨xg 0,ha.poz,⟨a.length,wdM a,rfl,rfl,by have:=ha.r64;omega,by have:=ha.c64;omega,fun i j hi hj=>⟨qh i,hi,qh j,by show j<(a.getD i []).length;rw[ha.row hi];exact hj⟩⟩,trivial⟩,rfl⟩
def b2A:Ctr:=⟨[tM],[tM],fun x=>okM x.1,fun x=>(tab (wdM (show MQ from x.1)) (show MQ from x.1).length (tr (ent x.1)),())⟩
theorem VH:aW Tryz.prog 94 b2A:=by
 refine bH ((((nil0.ad XE).an jP).an jR).an jQ) ⟨[],[],[]⟩ Tryz.func94 rfl (by decide) (fun x=>[]) (fun x hp=>?_)
 obtain⟨a,u⟩:=x
 change List (List Rat) at a
 refine bM ((asT Int 0<=0/\0<aB a.length/\CX TTu b3N (aB (List.getD a 0 (aC Rat)).length,aB a.length,(a,()),())/\True)/\(dS (fun(x:Ty.den (Ty.list (Ty.lf Lf.dF)))=>bY (dS (fun(x:Ty.den (Ty.lf Lf.dF))=>bY ((aF.ok x=true)::aC Prop)) x::aC Prop)) (aY (aB (List.getD a 0 (aC Rat)).length).toNat (aB a.length).toNat (gTu (a,())))/\True)/\List.map (fun(xs:Ty.den (Ty.list (Ty.lf Lf.dF)))=>List.map (fun(x:Ty.den (Ty.lf Lf.dF))=>aF.x x) xs) (aY (aB (List.getD a 0 (aC Rat)).length).toNat (aB a.length).toNat (gTu (a,())))=tab (wdM a) a.length (tr (ent a))/\True) (by kernel_rfl) ?_
 have ha:okM a:=hp
 exact⟨⟨xg 0,ha.poz,⟨wdM a,a.length,rfl,rfl,by have:=ha.c64;omega,by have:=ha.r64;omega,fun i j hi hj=>⟨qh i,qh j,hj,by show i<(a.getD j []).length;rw[ha.row hj];exact hi⟩⟩,trivial⟩,⟨tN _ _ _,trivial⟩,zN _ _ _,trivial⟩
def sqC (a:MQ):Int:=if a.length=wdM a then 0 else 4
def b2y:Ctr:=⟨[tM],[tI],fun x=>okM x.1,fun x=>(sqC x.1,())⟩
theorem a4R:aW Tryz.prog 116 b2y:=by
 refine bH (nil0.ad oQ) ⟨[],[],[]⟩ Tryz.func116 rfl (by decide) (fun x=>[]) (fun x hp=>?_)
 obtain⟨a,u⟩:=x
 change List (List Rat) at a
 refine bM (let A₀:=(List.map (fun(xs:Ty.den (Ty.list (Ty.lf Lf.rat)))=>List.map (fun(x:Ty.den (Ty.lf Lf.rat))=>eU x) xs) a);(dS (fun(x:Ty.den (Ty.list (Ty.lf Lf.rat)))=>bY (dS (fun(x:Ty.den (Ty.lf Lf.rat))=>bY (aC Prop)) x::aC Prop)) a/\iH A₀/\True)/\ifB (dK A₀ != 0) (True/\dK A₀=sqC a/\True) ((asT Int 0<=0/\0<aB a.length/\True)/\ifB (aB a.length != aB (List.getD a 0 (aC Rat)).length) (True/\4=sqC a/\True) (True/\0=sqC a/\True))) (by kernel_rfl) ?_
 have ha:okM a:=hp
 dsimp only[aB,asT,aA,aC] at *
 refine⟨⟨tH a,ha.short,trivial⟩,ifF (IW ha.chk) ⟨⟨xg 0,ha.poz,trivial⟩,?_⟩⟩
 by_cases h:a.length=wdM a
 ·exact ifF (by rw[a2j,ji.mpr h];rfl) ⟨trivial,(gy h).symm,trivial⟩
 ·exact ifT (by rw[a2j,jv.mpr h];rfl) ⟨trivial,(ig h).symm,trivial⟩
def b2z:Ctr:=⟨[tM],[tM,tI],fun x=>okM x.1,fun x=>(tab (wdM (show MQ from x.1)) (show MQ from x.1).length (tr (ent x.1)),(0:Int),())⟩
theorem zO:aW Tryz.prog 52 b2z:=by
 refine bH ((nil0.ad oQ).ad VH) ⟨[],[],[]⟩ Tryz.func52 rfl (by decide) (fun x=>[]) (fun x hp=>?_)
 obtain⟨a,u⟩:=x
 change List (List Rat) at a
 refine bM (let A₀:=(List.map (fun(xs:Ty.den (Ty.list (Ty.lf Lf.rat)))=>List.map (fun(x:Ty.den (Ty.lf Lf.rat))=>eU x) xs) a);(dS (fun(x:Ty.den (Ty.list (Ty.lf Lf.rat)))=>bY (dS (fun(x:Ty.den (Ty.lf Lf.rat))=>bY (aC Prop)) x::aC Prop)) a/\iH A₀/\True)/\ifB (dK A₀ != 0) (True/\aC (List Rat)=tab (wdM a) a.length (tr (ent a))/\True/\dK A₀=0/\True) ((okM a/\True)/\True/\tab (wdM a) a.length (tr (ent a))=tab (wdM a) a.length (tr (ent a))/\True/\asT Int 0=0/\True)) (by kernel_rfl) ?_
 have ha:okM a:=hp
 exact⟨⟨tH a,ha.short,trivial⟩,ifF (IW ha.chk) ⟨⟨ha,trivial⟩,trivial,rfl,trivial,rfl,trivial⟩⟩
def cMul:Ctr:=⟨[tM,tM],[tM,tI],fun x=>okM x.1/\okM x.2.1/\wdM (show MQ from x.1)=(show MQ from x.2.1).length/\szM x.1 1000000/\szM x.2.1 1000000,fun x=>(tab (show MQ from x.1).length (wdM (show MQ from x.2.1)) (mm (show MQ from x.2.1).length (ent x.1) (ent x.2.1)),(0:Int),())⟩
theorem QA:aW Tryz.prog 66 cMul:=by
 refine bH ((((((nil0.ad OI).ad XC).an jP).an jR).an jQ).ad VH) ⟨[7],[],[]⟩ Tryz.func66 rfl (by decide) (fun x=>[]) (fun x hp=>?_)
 obtain⟨a,b,u⟩:=x
 change List (List Rat) at a
 change List (List Rat) at b
 refine bM (let aQ:=(a::b::aC (List (List Rat)));let bJ:=(mm b.length (ent a) (ent b));let dA:=(a,tab (wdM b) b.length (tr (ent b)),());let dJ:=(Ty.list (Ty.lf Lf.rat));let A₀:=(fun(xs:Ty.den (Ty.list dJ))=>List.map (fun(xs:Ty.den dJ)=>List.map (fun(x:Ty.den (Ty.lf Lf.rat))=>eU x) xs) xs);let A₂:=(fun(x:Ty.den dJ)=>bY (dS (fun(x:Ty.den (Ty.lf Lf.rat))=>bY (aC Prop)) x::aC Prop));let dU:=(List.getD b 0 (aC Rat)).length;let A₁:=(aY (aB a.length).toNat (aB dU).toNat (gMu dA));(((dS A₂ a/\True)/\(dS A₂ b/\True)/\True)/\(List.length (List.map A₀ aQ)<=1000000/\∀ (a_1:List (List aF)),a_1 ∈ List.map A₀ aQ->iH a_1)/\True)/\ifB (jC (List.map A₀ aQ) != 0) (True/\aC (List Rat)=tab a.length (wdM b) bJ/\True/\jC (List.map A₀ aQ)=0/\True) ((asT Int 0<=0/\0<aB a.length/\True)/\ifB (aB (List.getD a 0 (aC Rat)).length != aB b.length) (True/\aC (List Rat)=tab a.length (wdM b) bJ/\True/\asT Int 4=0/\True) ((okM b/\True)/\(asT Int 0<=0/\0<aB b.length/\CX TMu b3L (aB a.length,aB dU,dA,())/\True)/\(dS (fun(x:Ty.den (Ty.list (Ty.lf Lf.dF)))=>bY (dS (fun(x:Ty.den (Ty.lf Lf.dF))=>bY ((aF.ok x=true)::aC Prop)) x::aC Prop)) A₁/\True)/\List.map (fun(xs:Ty.den (Ty.list (Ty.lf Lf.dF)))=>List.map (fun(x:Ty.den (Ty.lf Lf.dF))=>aF.x x) xs) A₁=tab a.length (wdM b) bJ/\True/\asT Int 0=0/\True))) (by kernel_rfl) ?_
 have hp:okM a/\okM b/\wdM a=b.length/\szM a 1000000/\szM b 1000000:=hp
 obtain⟨ha,hb,hw,sa,sb⟩:=hp
 have hk:jC [liftM a,liftM b]=0:=a5r fun m hm=>by
  rcases um.mp hm with rfl|hm
  ·exact ha.chk
  ·rw[oz.mp hm];exact hb.chk
 have hs:∀ m ∈ [liftM a,liftM b],iH m:=fun m hm=>by
  rcases um.mp hm with rfl|hm
  ·exact ha.short
  ·rw[oz.mp hm];exact hb.short
 have hrow:∀ j,j<wdM b->(tab (wdM b) b.length (tr (ent b))).getD j []=(List.range b.length).map (fun k=>ent b k j):=fun j hj=>iT hj
 have hd:∀ i,i<a.length->∀ j,j<wdM b->a1H (a.getD i []) ((tab (wdM b) b.length (tr (ent b))).getD j []):=fun i hi j hj=>by
  rw[hrow j hj]
  have hl:=ha.row hi
  refine⟨by rw[hl,hw];simp,by rw[hl];exact ha.c64,fun k hk=>?_⟩
  rw[hl] at hk
  refine⟨sa i hi k hk,?_⟩
  show rsz (((List.range b.length).map (fun k=>ent b k j)).getD k 0)<=_
  rw[gX (by omega)];exact sb k (by omega) j hj
 refine⟨⟨⟨⟨tH a,trivial⟩,⟨tH b,trivial⟩,trivial⟩,⟨by show 2<=1000000;omega,hs⟩,trivial⟩,ifF (IW hk) ⟨⟨xg 0,ha.poz,trivial⟩,ifF (by dsimp only[aB];rw[a2j,ji.mpr hw];rfl) ⟨⟨hb,trivial⟩,⟨xg 0,hb.poz,⟨a.length,wdM b,rfl,rfl,by have:=ha.r64;omega,by have:=hb.c64;omega,fun i j hi hj=>⟨qh i,hi,qh j,by show j<(tab _ _ _).length;rw[bF];exact hj,hd i hi j hj⟩⟩,trivial⟩,⟨tN _ _ _,trivial⟩,(zN _ _ _).trans (fB fun i hi j hj=>?_),trivial,rfl,trivial⟩⟩⟩
 have hj:j<wdM b:=hj
 have hi:i<a.length:=hi
 show sm (a.getD i []).length (fun k=>lv (a.getD i []) k*lv ((tab (wdM b) b.length (tr (ent b))).getD j []) k)=sm b.length (fun k=>ent a i k*ent b k j)
 rw[ha.row hi,hw,hrow j hj]
 refine iG _ fun k hk=>?_
 show ent a i k*((List.range b.length).map (fun k=>ent b k j)).getD k 0=_
 rw[gX hk]
def c0Z:Ctr:=⟨[tQ,tQ],[tQ],fun x=>rsz x.1<=400000000/\rsz x.2.1<=400000000/\(show Rat from x.2.1)≠0,fun x=>((show Rat from x.1) / (show Rat from x.2.1),())⟩
theorem b0T:aW Tryz.prog 148 c0Z:=by
 refine bH (nil0.ad c2t) ⟨[4,5],[],[]⟩ Tryz.func148 rfl (by decide) (fun x=>[]) (fun x hp=>?_)
 obtain⟨a,b,u⟩:=x
 change Rat at a
 change Rat at b
 refine bM (((rsz a<=400000000/\rsz b<=400000000)/\True)/\(aF.ok (b2M 14 a b).1=true/\True)/\aF.x (b2M 14 a b).1=a / b/\True) (by kernel_rfl) ?_
 have hp:rsz a<=400000000/\rsz b<=400000000/\b≠0:=hp
 have e:b2M 14 a b=(eU (a / b),(0:Int),()):=ig hp.2.2
 rw[e]
 exact⟨⟨⟨hp.1,hp.2.1⟩,trivial⟩,⟨rfl,trivial⟩,rfl,trivial⟩
def qM (x:LR) (o:LQ') (k:Rat) (s t:Nat):LR:=(List.range x.length).map fun c=>if s<=c/\c<t then eU ((x.getD c cO).x-k*lv o c) else x.getD c cO
theorem b1M (x:LR) (o:LQ') (k:Rat) (s t:Nat):(qM x o k s t).length=x.length:=by simp[qM]
theorem b4o {x:LR} {o:LQ'} {k:Rat} {s t c:Nat} (h:c<x.length):(qM x o k s t).getD c cO=if s<=c/\c<t then eU ((x.getD c cO).x-k*lv o c) else x.getD c cO:=gX h
theorem b6F (x:LR):(List.range x.length).map (fun c=>x.getD c cO)=x:=by
 apply Ac
 ·simp
 ·intro i h1 h2;simp[bf,h2]
theorem a8i (x:LR) (o:LQ') (k:Rat) (s:Nat):qM x o k s s=x:=by
 unfold qM
 rw[show (fun c=>if s<=c/\c<s then eU ((x.getD c cO).x-k*lv o c) else x.getD c cO)=(fun c=>x.getD c cO) from funext fun c=>ig (by omega)]
 exact b6F x
theorem b1O {x:LR} {o:LQ'} {k:Rat} {s t:Nat} (h:s<=t):(qM x o k s t).set t (eU ((x.getD t cO).x-k*lv o t))=qM x o k s (t+1):=by
 unfold qM;rw[map_set]
 refine jl fun c _=>?_
 by_cases e:c=t
 ·subst e;rw[gy rfl,gy ⟨h,by omega⟩]
 ·rw[ig e]
  by_cases h2:s<=c/\c<t
  ·rw[gy h2,gy ⟨h2.1,by omega⟩]
  ·rw[ig h2,ig (by omega)]
theorem a8h {x:LR} {o:LQ'} {k:Rat} {s t:Nat} (hx:∀ q ∈ x,q=eU q.x) (h:lv o t=0):qM x o k s (t+1)=qM x o k s t:=by
 unfold qM
 refine jl fun c hc=>?_
 by_cases h2:s<=c/\c<t
 ·rw[gy h2,gy ⟨h2.1,by omega⟩]
 ·rw[ig h2]
  split
  ·have e:c=t:=by omega
   subst e
   have h3:x.getD c cO=eU (x.getD c cO).x:=eX hx (uy.mp hc)
   rw[h,show (x.getD c cO).x-k*0=(x.getD c cO).x by grind,<-h3]
  ·rfl
theorem b1L {x:LR} {o:LQ'} {k:Rat} {s t:Nat} (h:x.length<=t):qM x o k s t=qM x o k s x.length:=by
 unfold qM
 refine jl fun c hc=>?_
 have:=uy.mp hc
 by_cases h2:s<=c
 ·rw[gy ⟨h2,by omega⟩,gy ⟨h2,by omega⟩]
 ·rw[ig (by omega),ig (by omega)]
def c4c:AO:=.chg (.row 64 tR) [.list tQ,tQ,tI] [] (fun x y=>(∀ q ∈ (show LR from x),q=eU q.x)/\(show LR from x).length=(show LQ' from y.1).length/\(show LR from x).length<=1000/\0<=(show Int from y.2.2.1)/\(∀ q ∈ (show LR from x),rsz q.x<=400000000)/\rsz y.2.1<=100000000/\∀ q ∈ (show LQ' from y.1),rsz q<=100000000) (fun x y=>qM x y.1 y.2.1 (show Int from y.2.2.1).toNat (show LR from x).length) (fun _ _=>())
theorem c2s:NOk Tryz.prog 150 c4c:=by
 refine a6b (((nil0.ad b2i).ad b5l).ad a3y) ⟨[],[],[]⟩ Tryz.func150 rfl (by decide) (fun x y=>[.inv {k:Nat // (show Int from y.2.2.1).toNat<=k} (fun k=>[(8,.val tI (k.1:Int))]) (fun k=>[(0,.row 64 tR (qM x y.1 y.2.1 (show Int from y.2.2.1).toNat k.1) 0)]) (fun k=>(show LR from x).length-k.1) ⟨(show Int from y.2.2.1).toNat,aj _⟩ (fun _=>[])]) (fun x y hp=>?_)
 obtain⟨o,k,s,u⟩:=y
 change List aF at x
 change List Rat at o
 change Rat at k
 change Int at s
 refine bM ((s=aB s.toNat/\x=qM x o k s.toNat s.toNat/\True)/\∀ (i:{ k:Nat // Int.toNat s<=k }),let A₀:=(qM x o k s.toNat (aA i));let A₁:=(aB (aA i)).toNat;let A₂:=(List.getD A₀ A₁ { ok:=false,x:=0,g:=aC Nat,h:=aC Nat });asT Bool true=true/\ifB (decide (aB (aA i)<aB A₀.length)) ((0<=aB (aA i)/\aB (aA i)<aB o.length/\rsz (List.getD o A₁ 0)<=1000000000/\True)/\ifB (sgn (Rat.num (List.getD o A₁ 0)) != 0) ((0<=aB (aA i)/\aB (aA i)<aB A₀.length/\Int.toNat (aB (aA i))<List.length A₀/\0<=aB (aA i)/\aB (aA i)<aB o.length/\s44 k (List.getD o A₁ 0)/\aF.ok A₂=true/\s44 (aF.x A₂) (k*List.getD o A₁ 0)/\0<=aB (aA i)/\aB (aA i)<aB A₀.length/\Int.toNat (aB (aA i))<List.length A₀/\True)/\∃ (i':{ k:Nat // Int.toNat s<=k }),List.length x-aA i'<List.length x-aA i/\IntKind.wrap IntKind.i64 (aB (aA i)+1)=aB (aA i')/\List.set A₀ A₁ (eU (aF.x A₂-k*List.getD o A₁ 0))=qM x o k s.toNat (aA i')/\True) (∃ (i':{ k:Nat // Int.toNat s<=k }),List.length x-aA i'<List.length x-aA i/\IntKind.wrap IntKind.i64 (aB (aA i)+1)=aB (aA i')/\qM x o k s.toNat (aA i)=qM x o k s.toNat (aA i')/\True)) (qM x o k s.toNat x.length=qM x o k s.toNat (aA i))) (by kernel_rfl) ?_
 have hp:(∀ q ∈ x,q=eU q.x)/\x.length=o.length/\x.length<=1000/\0<=s/\(∀ q ∈ x,rsz q.x<=400000000)/\rsz k<=100000000/\∀ q ∈ o,rsz q<=100000000:=hp
 obtain⟨hq,hl,hm,hs,zx,zk,zo⟩:=hp
 have hZ:(⟨false,0,[],[]⟩:aF)=cO:=rfl
 dsimp only[aB,asT,aA,aC] at *
 simp only[hZ,Int.toNat_natCast,aU,ay,au,ni,mg,b1M]
 refine⟨⟨by omega,(a8i _ _ _ _).symm⟩,fun i=>⟨fun h1=>?_,fun h1=>?_⟩⟩
 ·have hi:i.1<x.length:=by omega
  have z1:rsz (o.getD i.1 0)<=100000000:=eX zo (by omega)
  have z2:rsz (x.getD i.1 cO).x<=400000000:=eX (p:=fun q:aF=>rsz q.x<=400000000) zx hi
  have z3:=tK k (o.getD i.1 0)
  have e1:(qM x o k s.toNat i.1).getD i.1 cO=x.getD i.1 cO:=by rw[b4o hi,ig (by omega)]
  have e2:x.getD i.1 cO=eU (x.getD i.1 cO).x:=eX hq hi
  rw[e1]
  refine⟨⟨by omega,by omega,by omega⟩,fun h2=>⟨⟨by omega,by omega,hi,by omega,by omega,⟨by omega,by omega⟩,by rw[e2];rfl,⟨by omega,by omega⟩,by omega,by omega,hi⟩,⟨i.1+1,by have:=i.2;omega⟩,by simp only;omega,by rw[aZ (by omega) (by omega)];rfl,b1O i.2⟩,fun h2=>⟨⟨i.1+1,by have:=i.2;omega⟩,by simp only;omega,by rw[aZ (by omega) (by omega)];rfl,?_⟩⟩
  have h9:lv o i.1=0:=oZ.mp (by simpa using h2)
  exact(a8h hq h9).symm
 ·exact(b1L (by omega)).symm
def scl (m:Mt) (r j c:Nat) (v:Rat):Mt:=fun i d=>if i=r/\j<=d/\d<c then v*m i d else m i d
def elm (m:Mt) (r j t:Nat):Mt:=fun i d=>if i≠r/\i<t/\j<=d then m i d-m i j*m r d else m i d
theorem b1u (m:Mt) (r j:Nat) (v:Rat):scl m r j j v=m:=by
 funext i d;unfold scl;rw[ig (by omega)]
theorem b1t (m:Mt) {r j c:Nat} (h:j<=c) (v:Rat):scl m r j (c+1) v=fun i d=>if i=r then (fun e=>if e=c then v*m r c else scl m r j c v r e) d else scl m r j c v i d:=by
 funext i d
 unfold scl
 by_cases h1:i=r
 ·subst h1;simp only[Dk,ni]
  by_cases h2:d=c
  ·subst h2;rw[gy ⟨h,by omega⟩,gy rfl]
  ·rw[ig h2]
   by_cases h3:j<=d/\d<c
   ·rw[gy h3,gy ⟨h3.1,by omega⟩]
   ·rw[ig h3,ig (by omega)]
 ·simp only[ig h1];rw[ig (by simp[h1]),ig (by simp[h1])]
theorem b9E (m:Mt) {r j c:Nat} (v:Rat) {d:Nat} (h:c<=d) (i:Nat):scl m r j c v i d=m i d:=by unfold scl;rw[ig (by omega)]
theorem a9j (m:Mt) (r j:Nat):elm m r j 0=m:=by
 funext i d;unfold elm;rw[ig (by omega)]
theorem a1K (m:Mt) (r j t d:Nat):elm m r j t r d=m r d:=by unfold elm;rw[ig (by simp)]
theorem b5B (m:Mt) {r j t i:Nat} (h:t<=i) (d:Nat):elm m r j t i d=m i d:=by unfold elm;rw[ig (by omega)]
theorem a9i (m:Mt) {r j t:Nat} (h:t≠r):elm m r j (t+1)=fun i d=>if i=t then (fun e=>if j<=e then m t e-m t j*m r e else m t e) d else elm m r j t i d:=by
 funext i d
 unfold elm
 by_cases h1:i=t
 ·subst h1;simp only[Dk]
  by_cases h2:j<=d
  ·rw[gy ⟨h,by omega,h2⟩,gy h2]
  ·rw[ig (by omega),ig h2]
 ·simp only[ig h1]
  by_cases h2:i≠r/\i<t/\j<=d
  ·rw[gy h2,gy ⟨h2.1,by omega,h2.2.2⟩]
  ·rw[ig h2,ig (by omega)]
theorem a9h (m:Mt) {r j t:Nat} (h:t=r\/m t j=0):elm m r j (t+1)=elm m r j t:=by
 funext i d
 unfold elm
 by_cases h1:i=t
 ·subst h1
  rw[ig (c:=i≠r/\i<i/\j<=d) (by omega)]
  rcases h with h|h
  ·rw[ig (by simp[h])]
  ·split
   ·rw[h];grind
   ·rfl
 ·by_cases h2:i≠r/\i<t/\j<=d
  ·rw[gy h2,gy ⟨h2.1,by omega,h2.2.2⟩]
  ·rw[ig h2,ig (by omega)]
theorem b4n {m:Mt} {R C r k j:Nat} (hz:m k j≠0) (hr:r<=k) (hk:k<R) (h0:∀ i,r<=i->i<R->∀ d,d<j->m i d=0) :
  ∀ i,i<R->∀ d,d<C->elm (scl (iO m r k) r j C (1 / m k j)) r j R i d=kK m r k j i d:=by
 intro i hi d hd
 have hs:∀ e,iO m r k r e=m k e:=fun e=>by unfold iO;rw[gy rfl]
 have hv:m k j*(m k j)⁻¹=1:=Rat.mul_inv_cancel _ hz
 have hrow:∀ e,e<C->scl (iO m r k) r j C (1 / m k j) r e=m k e / m k j:=fun e he=>by
  unfold scl
  by_cases h:j<=e
  ·rw[gy ⟨rfl,h,he⟩,hs,Rat.div_def,Rat.div_def];grind
  ·rw[ig (by omega),hs,h0 k hr hk e (by omega),Rat.div_def];grind
 by_cases e1:i=r
 ·subst e1
  rw[a1K,hrow d hd];unfold kK;rw[gy rfl]
 ·have hoth:∀ e,scl (iO m r k) r j C (1 / m k j) i e=iO m r k i e:=fun e=>by unfold scl;rw[ig (by simp[e1])]
  unfold kK;rw[ig e1]
  unfold elm
  by_cases h:j<=d
  ·rw[gy ⟨e1,hi,h⟩,hoth,hoth,hrow d hd]
  ·rw[ig (by omega),hoth,h0 k hr hk d (by omega),Rat.div_def];grind
theorem b1J {m:Mt} {R C r k j:Nat} :
  ∀ i,i<R->∀ d,d<C->(if i=r then iO m r k r d / m k j else iO m r k i d-iO m r k i j*(iO m r k r d / m k j))=kK m r k j i d:=by
 intro i _ d _
 have hs:∀ e,iO m r k r e=m k e:=fun e=>by unfold iO;rw[gy rfl]
 unfold kK
 rw[hs]
def zA (R C:Nat) (e:Mt) (n:Nat):Prop:=∀ t,t<=n->∀ i,i<R->∀ c,c<C->rsz ((red R e t).1 i c)<=10000000
theorem KO {R C n K:Nat} {e:Mt} (H:Cd e R C K) (hn:n<=C) (hK:2 ^ n*(K+1)<=10000000):zA R C e n:=fun t ht i hi c hc=>by
 have h1:=(H.red t (by omega)).rsz hi hc
 have h2:2 ^ t*(K+1)<=2 ^ n*(K+1):=uf (wz (by omega) ht) (aj _)
 omega
theorem zA.at {R C n:Nat} {e:Mt} (h:zA R C e n) {i c:Nat} (hi:i<R) (hc:c<C):rsz (e i c)<=10000000:=h 0 (by omega) i hi c hc
theorem zA.mono {R C n m:Nat} {e:Mt} (h:zA R C e n) (hm:m<=n):zA R C e m:=fun t ht=>h t (by omega)
theorem a2N {R:Nat} {e:Mt} {n k:Nat} (hk:fk (red R e n).1 n (red R e n).2.length (R-(red R e n).2.length)=k) (hkR:k≠R):red R e (n+1)=(kK (red R e n).1 (red R e n).2.length k n,(red R e n).2++[n]):=by
 subst hk;exact ig hkR
theorem a2M {R:Nat} {e:Mt} {n:Nat} (hk:fk (red R e n).1 n (red R e n).2.length (R-(red R e n).2.length)=R):red R e (n+1)=red R e n:=gy hk
def DF (a:MQ) (n:Nat):Mt × List Nat:=red a.length (ent a) n
def rkM (a:MQ):Nat:=(DF a (wdM a)).2.length
def mulM (a b:MQ):MQ:=tab a.length (wdM b) (mm b.length (ent a) (ent b))
def trM (a:MQ):MQ:=tab (wdM a) a.length (tr (ent a))
def OY (a b:MQ):MQ:=tab a.length (wdM a) (ma (ent a) (ent b))
def VB (a b:MQ):MQ:=tab a.length (wdM a) (ms (ent a) (ent b))
def idM (n:Nat):MQ:=tab n n idm
def vM (a b:MQ):MQ:=tab a.length (wdM a+wdM b) (gG (wdM a) (ent a) (ent b))
def CS (a:MQ):Mt × List Nat:=red a.length (gG a.length (ent a) idm) a.length
def jF (a:MQ):Bool:=decide ((CS a).2.length=a.length)
def lZ (a:MQ):MQ:=tab a.length a.length fun i j=>(CS a).1 i (a.length+j)
def mvL (a:MQ) (x:List Rat):List Rat:=(List.range a.length).map (mv (wdM a) (ent a) (lv x))
instance c4n (N:Nat) (p:Nat->Prop) [DecidablePred p]:Decidable (∀ i,i<N->p i):=Nat.decidableBallLT N (fun i _=>p i)
def VD (a:MQ):Bool:=decide (∀ i,i<a.length->∀ j,j<a.length->ent a i j=ent a j i)
def a3z (a:MQ):Bool:=decide (∀ i,i<a.length->∀ j,j<wdM a->ent a i j=0)
def BZ (n g:MQ):Bool:=VD n&&a3z (mulM n g)&&decide (rkM g=wdM g)&&decide (rkM g+rkM n=n.length)
def sF (a:MQ):MQ:=(frees (wdM a) (DF a (wdM a)).2).map fun j=>(List.range (wdM a)).map (PE (DF a (wdM a)).1 (DF a (wdM a)).2 j)
def gY (a:MQ) (x:List Rat):Mt × List Nat:=red a.length (gG (wdM a) (ent a) (fun i _=>lv x i)) (wdM a)
def a3f (a:MQ) (x:List Rat):Bool:=decide (∀ i,i<a.length->(gY a x).2.length<=i->(gY a x).1 i (wdM a)=0)
def a1c (a:MQ) (x:List Rat):List Rat:=(List.range (wdM a)).map (xs (gY a x).1 (gY a x).2 (wdM a))
def CdM (a:MQ) (K:Nat):Prop:=Cd (ent a) a.length (wdM a) K
theorem isM.len {a:MQ} {R C:Nat} (h:isM a R C):a.length=R:=h.1
theorem isM.self {a:MQ} {R C:Nat} (h:isM a R C):isM a a.length (wdM a):=by rw[h.len,h.wd];exact h
theorem a1e {R C:Nat} {f:Nat->Nat->Rat} (h:1<=R):wdM (tab R C f)=C:=by
 show ((tab R C f).getD 0 []).length=C;rw[iT (by omega)];simp
theorem JA {R C K:Nat} {f:Mt} (h:1<=R) (H:Cd f R C K):CdM (tab R C f) K:=by
 unfold CdM;rw[bF,a1e h];exact H.congr fun i hi j hj=>lG hi hj
theorem CdM.sz {a:MQ} {K L:Nat} (H:CdM a K) (h:K<=L):szM a L:=fun i hi j hj=>jg (Cd.rsz H hi hj) h
theorem CdM.ok {a:MQ} {R C K:Nat} (H:CdM a K) (h:isM a R C) (hK:K<=100000000):okM a:=⟨h.self,H.sz hK⟩
theorem isM.mul {a b:MQ} {R C D n:Nat} (h:isM a R C) (g:isM b n D):isM (mulM a b) R D:=by
 unfold mulM;rw[h.len,g.wd];exact rP h.2.2.1 h.2.2.2.1 g.2.2.2.2.1 g.2.2.2.2.2
theorem isM.trp {a:MQ} {R C:Nat} (h:isM a R C):isM (trM a) C R:=by
 unfold trM;rw[h.len,h.wd];exact rP h.2.2.2.2.1 h.2.2.2.2.2 h.2.2.1 h.2.2.2.1
theorem isM.add {a b:MQ} {R C:Nat} (h:isM a R C):isM (OY a b) R C:=by
 unfold OY;rw[h.len,h.wd];exact rP h.2.2.1 h.2.2.2.1 h.2.2.2.2.1 h.2.2.2.2.2
theorem isM.sub {a b:MQ} {R C:Nat} (h:isM a R C):isM (VB a b) R C:=by
 unfold VB;rw[h.len,h.wd];exact rP h.2.2.1 h.2.2.2.1 h.2.2.2.2.1 h.2.2.2.2.2
theorem yS {n:Nat} (h:1<=n) (h2:n<=64):isM (idM n) n n:=rP h h2 h h2
theorem isM.inv {a:MQ} {n C:Nat} (h:isM a n C):isM (lZ a) n n:=by
 unfold lZ;rw[h.len];exact rP h.2.2.1 h.2.2.2.1 h.2.2.1 h.2.2.2.1
theorem CdM.mul {a b:MQ} {R n C K L:Nat} (H:CdM a K) (G:CdM b L) (h:isM a R n) (g:isM b n C):CdM (mulM a b) (K+L+n):=by
 unfold mulM;rw[h.len,g.len,g.wd]
 refine JA h.2.2.1 (Cd.mm ?_ ?_)
 ·have:=H;unfold CdM at this;rwa [h.len,h.wd] at this
 ·have:=G;unfold CdM at this;rwa [g.len,g.wd] at this
theorem CdM.trp {a:MQ} {R C K:Nat} (H:CdM a K) (h:isM a R C):CdM (trM a) K:=by
 unfold trM;rw[h.len,h.wd]
 refine JA h.2.2.2.2.1 (Cd.tr ?_)
 have:=H;unfold CdM at this;rwa [h.len,h.wd] at this
theorem CdM.add {a b:MQ} {R C K L:Nat} (H:CdM a K) (G:CdM b L) (h:isM a R C) (g:isM b R C):CdM (OY a b) (K+L+1):=by
 unfold OY;rw[h.len,h.wd]
 refine JA h.2.2.1 (Cd.add ?_ ?_)
 ·have:=H;unfold CdM at this;rwa [h.len,h.wd] at this
 ·have:=G;unfold CdM at this;rwa [g.len,g.wd] at this
theorem CdM.sub {a b:MQ} {R C K L:Nat} (H:CdM a K) (G:CdM b L) (h:isM a R C) (g:isM b R C):CdM (VB a b) (K+L+1):=by
 unfold VB;rw[h.len,h.wd]
 refine JA h.2.2.1 (Cd.sub ?_ ?_)
 ·have:=H;unfold CdM at this;rwa [h.len,h.wd] at this
 ·have:=G;unfold CdM at this;rwa [g.len,g.wd] at this
theorem QL {n:Nat} (h:1<=n):CdM (idM n) 1:=JA h (Cd.idm n n)
theorem CdM.CS {a:MQ} {n K:Nat} (H:CdM a K) (h:isM a n n):Cd (gG n (ent a) idm) n (n+n) (K+1):=by
 have:=H;unfold CdM at this;rw[h.len,h.wd] at this
 exact Cd.bes this (Cd.idm n n)
theorem CdM.inv {a:MQ} {n K:Nat} (H:CdM a K) (h:isM a n n):CdM (lZ a) (2 ^ n*(K+2)-1):=by
 unfold lZ Proofs.YtgplhbhfdgempaaGreat.CS;rw[h.len]
 refine JA h.2.2.1 ?_
 have H2:=Cd.red (H.CS h) n (by omega)
 obtain⟨D,d1,d2,d3⟩:=H2
 exact⟨D,d1,d2,fun i hi j hj=>d3 i hi (n+j) (by omega)⟩
theorem a8t {a:MQ} {R C:Nat} (h:isM a R C) (h1:szM a 1):CdM a (R*(C+1)+2):=by
 unfold CdM;rw[h.len,h.wd]
 exact Cd.of fun i hi j hj=>h1 i (by rw[h.len];exact hi) j (by rw[h.wd];exact hj)
def okE (a:MQ):Prop:=okM a/\zA a.length (wdM a) (ent a) (wdM a)
theorem DW {R C:Nat} {f:Nat->Nat->Rat} {i j:Nat} (v:Rat) (hi:i<R):(tab R C f).set i (((tab R C f).getD i []).set j v)=tab R C (fun a b=>if a=i/\b=j then v else f a b):=by
 rw[iT hi,map_set]
 unfold tab;rw[map_set]
 refine jl fun k _=>?_
 by_cases e:k=i
 ·subst e;rw[gy rfl]
  refine jl fun d _=>?_
  show _=if k=k/\d=j then v else f k d
  by_cases e2:d=j
  ·rw[gy e2,gy ⟨rfl,e2⟩]
  ·rw[ig e2,ig (fun h=>e2 h.2)]
 ·rw[ig e]
  refine jl fun d _=>?_
  show _=if k=i/\d=j then v else f k d
  rw[ig (fun h=>e h.1)]
def wY (a:MQ):MQ:=tab a.length (wdM a) (DF a (wdM a)).1
def kH (a:MQ):List Nat:=(DF a (wdM a)).2
def bV (l:List Nat):List Int:=l.map fun p:Nat=>(p:Int)
theorem pY (l:List Nat):(bV l).length=l.length:=by simp[bV]
theorem QJ (R r k:Nat):((List.range R).set r k).set k r=(List.range R).map (fun i=>if i=k then r else if i=r then k else i):=by
 have h:=map_set (fun i=>i) R r k
 rw[List.map_id'] at h
 rw[h,map_set]
theorem b1T {R C r k:Nat} {m:Mt} (hr:r<R) (hk:k<R):List.map (fun t=>(tab R C m).getD t []) (((List.range R).set r k).set k r)=tab R C (iO m r k):=by
 rw[QJ,Ec]
 unfold tab
 refine jl fun i hi=>?_
 have hi:=uy.mp hi
 show (tab R C m).getD (if i=k then r else if i=r then k else i) []=_
 have hb:(if i=k then r else if i=r then k else i)<R:=by
  split
  ·exact hr
  ·split
   ·exact hk
   ·exact hi
 rw[iT hb]
 refine jl fun c _=>?_
 unfold iO
 by_cases e1:i=k
 ·by_cases e2:i=r
  ·rw[gy e1,gy e2];have:r=k:=by omega
   rw[this]
  ·rw[gy e1,ig e2,gy e1]
 ·by_cases e2:i=r
  ·rw[ig e1,gy e2,gy e2]
  ·rw[ig e1,ig e2,ig e2,ig e1]
theorem b1U (R:Nat) {r k:Nat} (hr:r<R) (hk:k<R):(((List.range R).set r k).set k r).Nodup:=by
 rw[QJ]
 refine List.nodup_iff_pairwise_ne.mpr (List.pairwise_iff_getElem.mpr fun i j hi hj h=>?_)
 simp only[List.getElem_map,List.getElem_range]
 split<;>split<;>(try split)<;>(try split)<;>omega
theorem swp_get {R r k:Nat} (hr:r<R):(((List.range R).set r k).set k r).getD r 0=k:=by
 rw[QJ,gX hr]
 by_cases e:r=k
 ·rw[gy e];exact e
 ·rw[ig e,gy rfl]
theorem a2i (l:List Nat) (j:Nat):(bV l).any (fun q=>q==(j:Int))=decide (j ∈ l):=by
 unfold bV
 rw[List.any_map]
 by_cases h:j ∈ l
 ·rw[pz h];exact yc.mpr ⟨j,h,beq_self_eq_true _⟩
 ·rw[jy h]
  refine Ag.mpr fun q hq=>?_
  show ¬ ((q:Int)==(j:Int))=true
  intro e
  have:(q:Int)=j:=eq_of_beq e
  exact h (by rw[<-show q=j by omega];exact hq)
theorem a9p {p:List Nat} {j:Nat} (h:j ∈ p):frees (j+1) p=frees j p:=by unfold frees;rw[Bv,List.filter_append];simp[h]
theorem a7o {p:List Nat} {j:Nat} (h:j ∉ p):frees (j+1) p=frees j p++[j]:=by unfold frees;rw[Bv,List.filter_append];simp[h]
theorem yB {p:List Nat} {t d:Nat} (ht:t<p.length):d ∈ p.take (t+1)↔d ∈ p.take t\/d=p[t]:=by
 rw[Ba,dw ht,uq]
 simp only[Option.toList,oz]
end Go.Proofs.YtgplhbhfdgempaaGreat
