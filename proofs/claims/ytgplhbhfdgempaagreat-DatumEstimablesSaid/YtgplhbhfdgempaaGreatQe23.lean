/-
  Lemmas for the theorem vestimables_holds, part 23 of 36.
-/
import Derived.Test.YtgplhbhfdgempaaGreatQe22
namespace Go.Proofs.YtgplhbhfdgempaaGreat
open Go Go.RowKit
theorem Ec:type_of% @Tryz.func110:=@Tryz.func110
def Cd (e:Mt) (R C K:Nat):Prop:=∃ D:Nat,0<D/\nsz D<=K/\∀ i,i<R->∀ j,j<C->∃ z:Int,e i j*(D:Nat)=(z:Int)/\isz z<=K
theorem a1b {D:Nat} (h:0<D):((D:Nat):Rat)≠0:=fun h1=>by
 have:((D:Nat):Rat)=((0:Nat):Rat):=h1
 have:=Rat.natCast_inj.mp this;omega
theorem Cd.rsz {e:Mt} {R C K:Nat} (H:Cd e R C K) {i j:Nat} (h1:i<R) (h2:j<C):rsz (e i j)<=K:=by
 obtain⟨D,h0,hD,h⟩:=H
 obtain⟨z,hz,hs⟩:=h i h1 j h2
 have e1:e i j=Rat.divInt z D:=by
  rw[Rat.divInt_eq_div,<-hz,Rat.div_def]
  have:((D:Int):Rat)=((D:Nat):Rat):=Rat.intCast_natCast D
  rw[this,Rat.mul_assoc,Rat.mul_inv_cancel _ (a1b h0)];grind
 rw[e1]
 exact zS _ _ (by omega) hs (by unfold isz;simpa using hD)
theorem Cd.mono {e:Mt} {R C K L:Nat} (H:Cd e R C K) (h:K<=L):Cd e R C L:=by
 obtain⟨D,h0,hD,hh⟩:=H
 exact⟨D,h0,by omega,fun i h1 j h2=>by obtain⟨z,hz,hs⟩:=hh i h1 j h2;exact⟨z,hz,by omega⟩⟩
theorem Cd.congr {e f:Mt} {R C K:Nat} (H:Cd e R C K) (h:∀ i,i<R->∀ j,j<C->f i j=e i j):Cd f R C K:=by
 obtain⟨D,h0,hD,hh⟩:=H
 exact⟨D,h0,hD,fun i h1 j h2=>by rw[h i h1 j h2];exact hh i h1 j h2⟩
theorem Cd.tr {e:Mt} {R C K:Nat} (H:Cd e R C K):Cd (tr e) C R K:=by
 obtain⟨D,h0,hD,hh⟩:=H
 exact⟨D,h0,hD,fun i h1 j h2=>hh j h2 i h1⟩
theorem b5n {f:Nat->Rat} {D K:Nat}:∀ n,(∀ k,k<n->∃ z:Int,f k*(D:Nat)=(z:Int)/\isz z<=K)->∃ z:Int,sm n f*(D:Nat)=(z:Int)/\isz z<=K+n
 | 0,_=>⟨0,by show (0:Rat)*_=_;rw[Rat.zero_mul];rfl,by rw[KP];omega⟩
 | n+1,h=>by
  have ⟨z,h1,h2⟩:=b5n n (fun k hk=>h k (by omega))
  have ⟨y,h3,h4⟩:=h n (by omega)
  refine⟨z+y,?_,by have:=EX z y;omega⟩
  show (sm n f+f n)*_=_
  rw[Rat.intCast_add,<-h1,<-h3];grind
theorem vS (a b:Nat):((a*b:Nat):Rat)=(a:Rat)*(b:Rat):=Rat.natCast_mul a b
theorem Cd.mm {a b:Mt} {R n C K L:Nat} (H:Cd a R n K) (G:Cd b n C L):Cd (mm n a b) R C (K+L+n):=by
 obtain⟨D,h0,hD,hh⟩:=H
 obtain⟨E,g0,gD,gg⟩:=G
 refine⟨D*E,Nat.mul_pos h0 g0,by have:=wP D E;omega,fun i hi j hj=>b5n n fun k hk=>?_⟩
 obtain⟨z,h1,h2⟩:=hh i hi k hk
 obtain⟨y,h3,h4⟩:=gg k hk j hj
 exact⟨z*y,by rw[zy,<-h1,<-h3,vS];grind,by have:=eY z y;omega⟩
theorem Cd.two {a b:Mt} {R C K L:Nat} (H:Cd a R C K) (G:Cd b R C L) (s:Int) (hs:s=1\/s=-1):Cd (fun i j=>a i j+s*b i j) R C (K+L+1):=by
 obtain⟨D,h0,hD,hh⟩:=H
 obtain⟨E,g0,gD,gg⟩:=G
 refine⟨D*E,Nat.mul_pos h0 g0,by have:=wP D E;omega,fun i hi j hj=>?_⟩
 obtain⟨z,h1,h2⟩:=hh i hi j hj
 obtain⟨y,h3,h4⟩:=gg i hi j hj
 refine⟨z*E+s*(y*D),?_,?_⟩
 ·rw[Rat.intCast_add,zy,zy,zy,<-h1,<-h3,vS,Rat.intCast_natCast,Rat.intCast_natCast];grind
 ·have a1:=eY z E;have a2:=eY y D
  have a3:isz ((E:Nat):Int)<=L:=by unfold isz;simpa using gD
  have a4:isz ((D:Nat):Int)<=K:=by unfold isz;simpa using hD
  have a5:=EX (z*E) (s*(y*D))
  have a6:isz (s*(y*D))=isz (y*D):=by
   rcases hs with h|h
   ·rw[h,Int.one_mul]
   ·rw[h,Int.neg_one_mul,nU]
  omega
theorem Cd.add {a b:Mt} {R C K L:Nat} (H:Cd a R C K) (G:Cd b R C L):Cd (ma a b) R C (K+L+1) :=
 (H.two G 1 (Or.inl rfl)).congr fun i _ j _=>by show a i j+b i j=a i j+((1:Int):Rat)*b i j;rw[show ((1:Int):Rat)=1 from rfl];grind
theorem Cd.sub {a b:Mt} {R C K L:Nat} (H:Cd a R C K) (G:Cd b R C L):Cd (ms a b) R C (K+L+1) :=
 (H.two G (-1) (Or.inr rfl)).congr fun i _ j _=>by show a i j-b i j=a i j+((-1:Int):Rat)*b i j;rw[show ((-1:Int):Rat)=-1 from rfl];grind
theorem Cd.idm (R C:Nat):Cd idm R C 1:=by
 refine⟨1,by omega,zH (x:=(1:Int)) (k:=1) (by unfold BB;decide),fun i _ j _=>⟨if i=j then 1 else 0,?_,?_⟩⟩
 ·show (if i=j then (1:Rat) else 0)*((1:Nat):Rat)=((if i=j then (1:Int) else 0:Int):Rat)
  rw[show ((1:Nat):Rat)=1 from rfl,Rat.mul_one]
  by_cases h:i=j
  ·rw[ig h,ig h];rfl
  ·rw[iq h,iq h];rfl
 ·split
  ·exact zH (by unfold BB;decide)
  ·rw[KP];omega
theorem Cd.bes {a b:Mt} {R n C K L:Nat} (H:Cd a R n K) (G:Cd b R C L):Cd (jK n a b) R (n+C) (K+L):=by
 obtain⟨D,h0,hD,hh⟩:=H
 obtain⟨E,g0,gD,gg⟩:=G
 have a3:isz ((E:Nat):Int)<=L:=by unfold isz;simpa using gD
 have a4:isz ((D:Nat):Int)<=K:=by unfold isz;simpa using hD
 refine⟨D*E,Nat.mul_pos h0 g0,by have:=wP D E;omega,fun i hi j hj=>?_⟩
 unfold jK
 by_cases h:j<n
 ·obtain⟨z,h1,h2⟩:=hh i hi j h
  refine⟨z*E,?_,by have:=eY z E;omega⟩
  rw[ig h,zy,<-h1,vS,Rat.intCast_natCast];grind
 ·obtain⟨z,h1,h2⟩:=gg i hi (j-n) (by omega)
  refine⟨z*D,?_,by have:=eY z D;omega⟩
  rw[iq h,zy,<-h1,vS,Rat.intCast_natCast];grind
theorem Cd.step {e:Mt} {R C K r k j:Nat} (H:Cd e R C K) (hr:r<R) (hk:k<R) (hj:j<C) (hz:e k j≠0):Cd (kR e r k j) R C (2*K+1):=by
 obtain⟨D,h0,hD,hh⟩:=H
 obtain⟨p,p1,p2⟩:=hh k hk j hj
 have a4:isz ((D:Nat):Int)<=K:=by unfold isz;simpa using hD
 have hsw:∀ i,i<R->∀ c,c<C->∃ z:Int,iO e r k i c*(D:Nat)=(z:Int)/\isz z<=K:=fun i hi c hc=>by
  unfold iO;split
  ·exact hh k hk c hc
  ·split
   ·exact hh r hr c hc
   ·exact hh i hi c hc
 have hp:p≠0:=fun h=>by
  rw[h] at p1
  have h3:e k j*(D:Nat)=0:=p1
  have h2:=a1b h0
  have:e k j*(D:Nat)*((D:Nat):Rat)⁻¹=e k j:=by rw[Rat.mul_assoc,Rat.mul_inv_cancel _ h2];grind
  rw[h3] at this;exact hz (by rw[<-this];grind)
 have hpR:(p:Rat)≠0:=fun h=>hp (Rat.intCast_inj.mp h)
 have hpa:((p.natAbs:Nat):Rat)=(p.sign:Rat)*p:=by
  rw[<-Rat.intCast_natCast,<-zy,show p.sign*p=(p.natAbs:Int) by rw[Int.sign_mul_self]]
 have hs:isz p.sign<=1:=by
  refine zH ?_
  have:=Int.natAbs_sign_of_ne_zero hp;rw[this];unfold BB;decide
 have hsm:∀ y:Int,isz (p.sign*y)=isz y:=fun y=>by
  rcases Ad p 0 with h|h|h
  ·rw[uz h,Int.neg_one_mul,nU]
  ·exact absurd h hp
  ·rw[wu h,Int.one_mul]
 refine⟨D*p.natAbs,Nat.mul_pos h0 (Int.natAbs_pos.mpr hp),by have:=wP D p.natAbs;unfold isz at p2;omega,fun i hi c hc=>?_⟩
 obtain⟨y,y1,y2⟩:=hh k hk c hc
 have hdv:e k c / e k j*p=y:=by
  rw[<-p1,<-y1,Rat.div_def]
  have:=Rat.mul_inv_cancel _ hz;grind
 unfold kR
 by_cases h:i=r
 ·refine⟨p.sign*(y*D),?_,by rw[hsm];have:=eY y D;omega⟩
  rw[ig h,vS,hpa,zy,zy,Rat.intCast_natCast,<-hdv];grind
 ·obtain⟨z,z1,z2⟩:=hsw i hi c hc
  obtain⟨x,x1,x2⟩:=hsw i hi j hj
  refine⟨p.sign*(z*p-x*y),?_,?_⟩
  ·rw[iq h,vS,hpa,zy,Rat.intCast_sub,zy,zy,<-z1,<-x1,<-hdv];grind
  ·rw[hsm];have b1:=a0U (z*p) (x*y);have b2:=eY z p;have b3:=eY x y;omega
theorem Cd.red {e:Mt} {R C K:Nat} (H:Cd e R C K):∀ n,n<=C->Cd (red R e n).1 R C (2 ^ n*(K+1)-1)
 | 0,_=>H.mono (by omega)
 | n+1,hn=>by
  have ih:=Cd.red H n (by omega)
  have E:=jD R e n
  rw[a3q]
  have ⟨k1,k2⟩:=YD (Proofs.YtgplhbhfdgempaaGreat.red R e n).1 n (R-(Proofs.YtgplhbhfdgempaaGreat.red R e n).2.length) (Proofs.YtgplhbhfdgempaaGreat.red R e n).2.length
  have k4:=a2p (Proofs.YtgplhbhfdgempaaGreat.red R e n).1 n (R-(Proofs.YtgplhbhfdgempaaGreat.red R e n).2.length) (Proofs.YtgplhbhfdgempaaGreat.red R e n).2.length
  have hle:=E.le
  split
  ·exact ih.mono (by have:=jw (K+1) (yc (show 0<2 by omega) (show n<=n+1 by omega));omega)
  ·rename_i h
   refine(ih.step (r:=(Proofs.YtgplhbhfdgempaaGreat.red R e n).2.length) (by omega) (by omega) (show n<C by omega) (k4 (by omega))).mono ?_
   have h1:0<2 ^ n*(K+1):=Nat.mul_pos (Nat.pow_pos (by omega)) (by omega)
   rw[Nat.pow_succ,wz (2 ^ n) 2,Nat.mul_assoc];omega
def pd:Nat->(Nat->Nat)->Nat
 | 0,_=>1
 | n+1,f=>pd n f*f n
theorem a4S {f:Nat->Nat}:∀ n,(∀ k,k<n->0<f k)->0<pd n f
 | 0,_=>Nat.one_pos
 | n+1,h=>Nat.mul_pos (a4S n (fun k hk=>h k (by omega))) (h n (by omega))
theorem a4Q {f:Nat->Nat} {k:Nat}:∀ n,k<n->f k ∣ pd n f
 | 0,h=>by omega
 | n+1,h=>by
  show f k ∣ pd n f*f n
  by_cases e:k=n
  ·rw[e];exact Nat.dvd_mul_left _ _
  ·exact Nat.dvd_trans (a4Q n (by omega)) (Nat.dvd_mul_right _ _)
theorem a4R {f:Nat->Nat} {K:Nat}:∀ n,(∀ k,k<n->nsz (f k)<=K)->nsz (pd n f)<=n*K+1
 | 0,_=>by
  have:isz ((1:Nat):Int)<=1:=zH (by unfold BB;decide)
  show nsz 1<=_;unfold isz at this;simp at this;omega
 | n+1,h=>by
  have h1:=a4R n (fun k hk=>h k (by omega))
  have h2:=h n (by omega)
  have h3:=wP (pd n f) (f n)
  show nsz (pd n f*f n)<=_;rw[Ag];omega
theorem Cd.of {e:Mt} {R C:Nat} (h:∀ i,i<R->∀ j,j<C->Proofs.YtgplhbhfdgempaaGreat.rsz (e i j)<=1):Cd e R C (R*(C+1)+2):=by
 have hp:0<pd R (fun i=>pd C (fun j=>(e i j).den)):=a4S R fun i _=>a4S C fun j _=>(e i j).den_pos
 have hn:nsz (pd R (fun i=>pd C (fun j=>(e i j).den)))<=R*(C+1)+1:=a4R R fun i hi=>by
  have:=a4R (f:=fun j=>(e i j).den) (K:=1) C fun j hj=>jg (Nat.le_max_right _ _) (h i hi j hj)
  omega
 refine⟨_,hp,by omega,fun i hi j hj=>?_⟩
 have ⟨q,hq⟩:(e i j).den ∣ pd R (fun i=>pd C (fun j=>(e i j).den)):=Nat.dvd_trans (a4Q (f:=fun j=>(e i j).den) C hj) (a4Q (f:=fun i=>pd C (fun j=>(e i j).den)) R hi)
 refine⟨(e i j).num*q,?_,?_⟩
 ·rw[hq,vS,zy,Rat.intCast_natCast]
  have h1:e i j*((e i j).den:Rat)=(e i j).num:=by
   have h2:=Rat.num_divInt_den (e i j)
   have h3:=Rat.inv_mul_cancel _ (a1b (e i j).den_pos)
   rw[Rat.divInt_eq_div,Rat.div_def,Rat.intCast_natCast] at h2
   generalize ((e i j).num:Rat)=x at *
   generalize ((e i j).den:Rat)=y at *
   rw[<-h2,Rat.mul_assoc,h3,Rat.mul_one]
  rw[<-h1];grind
 ·have a1:=eY (e i j).num q
  have a2:isz (e i j).num<=1:=jg (Nat.le_max_left _ _) (h i hi j hj)
  have a3:nsz q<=R*(C+1)+1:=jg (KY (by rw[hq];exact Nat.le_mul_of_pos_left _ (e i j).den_pos)) hn
  have a4:isz ((q:Nat):Int)<=R*(C+1)+1:=by unfold isz;simpa using a3
  omega
set_option maxRecDepth 100000
set_option maxHeartbeats 1000000
set_option linter.unusedVariables false
set_option linter.unusedSimpArgs false
theorem xH {f:Nat->Rat} {K:Nat}:∀ n,(∀ i,i<n->rsz (f i)<=K)->rsz (sm n f)<=n*(K+1)+1
 | 0,_=>by show rsz 0<=_;rw[show rsz 0=1 by decide +kernel];omega
 | n+1,h=>by
  have h1:=xH n (fun i hi=>h i (by omega))
  have h2:=h n (by omega)
  have h3:=a7d (sm n f) (f n)
  show rsz (sm n f+f n)<=_
  rw[Ag];omega
def IL (x y:LQ') (k:Nat):Rat:=sm k fun i=>lv x i*lv y i
def a2d (x y:LQ'):Prop:=x.length=y.length/\x.length<=64/\∀ i,i<x.length->rsz (lv x i)<=1000000/\rsz (lv y i)<=1000000
theorem a9E {x y:LQ'} (h:a2d x y) {k:Nat} (hk:k<=x.length):rsz (IL x y k)<=200000000:=by
 have h1:=xH (K:=2000000) (f:=fun i=>lv x i*lv y i) k (fun i hi=>by
  have ⟨a,b⟩:=h.2.2 i (by omega)
  have:=lS (lv x i) (lv y i);show rsz (lv x i*lv y i)<=_;omega)
 have h2:=h.2.1
 have:k*(2000000+1)<=64*2000001:=ou (by omega) (by omega)
 show rsz (sm k _)<=_
 omega
theorem nZ {x:Rat}:sgn x.num=0↔x=0:=⟨fun h=>Rat.num_eq_zero.mp (Du.1 h),fun h=>by rw[h];rfl⟩
def c1b:Ctr:=⟨[.list tQ,.list tQ],[tQ],fun x=>a2d x.1 x.2.1,fun x=>(IL x.1 x.2.1 (show LQ' from x.1).length,())⟩
theorem a2c:aW Tryz.prog 112 c1b:=by
 refine lM ((((nil0.ad a7v).ad b5N).ad b2N).ad ZX) [4,5,7] Tryz.func112 rfl (by decide) (fun x=>[.inv {k:Nat // k<=(show LQ' from x.1).length} (fun k=>[(11,.val tI (k.1:Int))]) (fun k=>[(4,.box [⟨tR,bU⟩]),(5,.box [⟨tQ,IL x.1 x.2.1 k.1⟩])]) (fun k=>(show LQ' from x.1).length-k.1) ⟨0,by omega⟩ (fun _=>[])]) (fun x hp=>?_)
 obtain⟨x,y,u⟩:=x
 change List Rat at x
 change List Rat at y
 refine bP ((iW 0/\True)/\(asT Int 0=0/\asT aF { ok:=false,x:=0,g:=aC Nat,h:=aC Nat }=bU/\fA 0=IL x y 0/\True)/\∀ (i:{ k:Nat // k<=List.length x }),let A₁:=(aB (aA i)).toNat;let A₂:=(Rat.num (List.getD x A₁ 0));let A₀:=((sgn A₂ != 0)==true);let aQ:=(A₀=true->A₀=true/\True);asT Bool true=true/\ifB (decide (aB (aA i)<aB x.length)) ((0<=aB (aA i)/\aB (aA i)<aB x.length/\True)/\(rsz (List.getD x A₁ 0)<=1000000000/\(A₀=true->A₀=true/\A₀=true/\0<=aB (aA i)/\aB (aA i)<aB y.length/\True)/\aQ/\(A₀=true->A₀=true/\rsz (List.getD y A₁ 0)<=1000000000/\True)/\aQ/\((sgn A₂ != 0)=true->A₀=true)/\True)/\ifB (bif sgn A₂ != 0 then sgn (Rat.num (List.getD y A₁ 0)) != 0 else false) ((0<=aB (aA i)/\aB (aA i)<aB y.length/\s44 (List.getD x A₁ 0) (List.getD y A₁ 0)/\s44 (IL x y (aA i)) (List.getD x A₁ 0*List.getD y A₁ 0)/\True)/\∃ (i':{ k:Nat // k<=List.length x }),List.length x-aA i'<List.length x-aA i/\IntKind.wrap IntKind.i64 (aB (aA i)+1)=aB (aA i')/\asT aF bU=bU/\IL x y (aA i)+List.getD x A₁ 0*List.getD y A₁ 0=IL x y (aA i')/\True) (∃ (i':{ k:Nat // k<=List.length x }),List.length x-aA i'<List.length x-aA i/\IntKind.wrap IntKind.i64 (aB (aA i)+1)=aB (aA i')/\asT aF bU=bU/\IL x y (aA i)=IL x y (aA i')/\True)) (True/\IL x y (aA i)=IL x y x.length/\True)) (by kernel_rfl) ?_
 have hp:a2d x y:=hp
 have hZ:(⟨false,0,[],[]⟩:aF)=bU:=rfl
 dsimp only[aB,asT,aA,aC] at *
 simp only[hZ,Int.toNat_natCast,aT,ay,au,oh,ny]
 have hs:=fun k (hk:k<=x.length)=>a9E hp hk
 obtain⟨hl,h64,hr⟩:=hp
 refine⟨by unfold iW;omega,rfl,fun i=>⟨fun h1=>?_,fun h1=>?_⟩⟩
 ·have hi:i.1<x.length:=by omega
  have a1:rsz (x.getD i.1 0)<=1000000:=(hr i.1 hi).1
  have a2:rsz (y.getD i.1 0)<=1000000:=(hr i.1 hi).2
  have a3:=hs i.1 i.2
  have a4:=lS (x.getD i.1 0) (y.getD i.1 0)
  refine⟨⟨by omega,h1⟩,⟨by omega,fun h=>⟨h,h,by omega,by omega⟩,fun h=>h,fun h=>⟨h,by omega⟩,fun h=>h,fun h=>by rw[h];rfl⟩,fun h=>⟨⟨by omega,by omega,⟨by omega,by omega⟩,by omega,by omega⟩,⟨i.1+1,by omega⟩,by simp only;omega,by rw[aZ (by omega) (by omega)];rfl,rfl⟩,fun h=>⟨⟨i.1+1,by omega⟩,by simp only;omega,by rw[aZ (by omega) (by omega)];rfl,?_⟩⟩
  have hz:x.getD i.1 0*y.getD i.1 0=0:=by
   by_cases hx:sgn (x.getD i.1 0).num=0
   ·have h9:x.getD i.1 0=0:=nZ.mp hx
    rw[h9];grind
   ·rw[show (sgn (x.getD i.1 0).num != 0)=true from uy.mpr hx] at h
    have h:(sgn (y.getD i.1 0).num != 0)=false:=h
    have h9:y.getD i.1 0=0:=nZ.mp (by simpa using h)
    rw[h9];grind
  show sm i.1 _=sm i.1 _+x.getD i.1 0*y.getD i.1 0
  rw[hz];grind
 ·have:i.1=x.length:=by have:=i.2;omega
  rw[this]
abbrev TCo:List Ty:=[.ref tM]
def b4l (c:(nest TCo).den) (i j:Int):Prop:=0<=i/\i.toNat<(show MQ from c.1).length/\0<=j/\j.toNat<((show MQ from c.1).getD i.toNat []).length
def gCo (c:(nest TCo).den) (i j:Nat):Rat:=ent c.1 i j
theorem XV:aW Tryz.prog 167 (a0p TCo b4l gCo):=by
 refine lM nil0 [5] Tryz.func167 rfl (by decide) (fun x=>[]) (fun x hp=>?_)
 obtain⟨i,j,c⟩:=x
 change Int at i
 change Int at j
 obtain⟨a,u⟩:=c
 change List (List Rat) at a
 refine bP ((0<=i/\i<aB a.length/\0<=j/\j<aB (List.getD a i.toNat (aC Rat)).length/\True)/\True/\List.getD (List.getD a i.toNat (aC Rat)) j.toNat 0=ent a i.toNat j.toNat/\True) (by kernel_rfl) ?_
 try dsimp only[aB,asT,aA,aC] at *
 have h1:0<=i/\i.toNat<a.length/\0<=j/\j.toNat<(a.getD i.toNat []).length:=hp
 exact⟨⟨h1.1,by omega,h1.2.2.1,by omega,trivial⟩,trivial,rfl,trivial⟩
abbrev TTu:List Ty:=[.ref tM]
def b4q (c:(nest TTu).den) (i j:Int):Prop:=0<=i/\0<=j/\j.toNat<(show MQ from c.1).length/\i.toNat<((show MQ from c.1).getD j.toNat []).length
def gTu (c:(nest TTu).den) (i j:Nat):Rat:=ent c.1 j i
theorem YA:aW Tryz.prog 140 (a0p TTu b4q gTu):=by
 refine lM nil0 [5] Tryz.func140 rfl (by decide) (fun x=>[]) (fun x hp=>?_)
 obtain⟨i,j,c⟩:=x
 change Int at i
 change Int at j
 obtain⟨a,u⟩:=c
 change List (List Rat) at a
 refine bP ((0<=j/\j<aB a.length/\0<=i/\i<aB (List.getD a j.toNat (aC Rat)).length/\True)/\True/\List.getD (List.getD a j.toNat (aC Rat)) i.toNat 0=ent a j.toNat i.toNat/\True) (by kernel_rfl) ?_
 try dsimp only[aB,asT,aA,aC] at *
 have h1:0<=i/\0<=j/\j.toNat<a.length/\i.toNat<(a.getD j.toNat []).length:=hp
 exact⟨⟨h1.2.1,by omega,h1.1,by omega,trivial⟩,trivial,rfl,trivial⟩
abbrev TMu:List Ty:=[.ref tM,.ref tM]
def b4n (c:(nest TMu).den) (i j:Int):Prop:=0<=i/\i.toNat<(show MQ from c.1).length/\0<=j/\j.toNat<(show MQ from c.2.1).length/\a2d ((show MQ from c.1).getD i.toNat []) ((show MQ from c.2.1).getD j.toNat [])
def gMu (c:(nest TMu).den) (i j:Nat):Rat:=IL ((show MQ from c.1).getD i []) ((show MQ from c.2.1).getD j []) ((show MQ from c.1).getD i []).length
theorem XY:aW Tryz.prog 111 (a0p TMu b4n gMu):=by
 refine lM (nil0.ad a2c) [6] Tryz.func111 rfl (by decide) (fun x=>[]) (fun x hp=>?_)
 obtain⟨i,j,c⟩:=x
 change Int at i
 change Int at j
 obtain⟨a,b,u⟩:=c
 change List (List Rat) at a
 change List (List Rat) at b
 refine bP ((0<=i/\i<aB a.length/\0<=j/\j<aB b.length/\a2d (List.getD a i.toNat (aC Rat)) (List.getD b j.toNat (aC Rat))/\True)/\True/\IL (List.getD a i.toNat (aC Rat)) (List.getD b j.toNat (aC Rat)) (List.getD a i.toNat (aC Rat)).length=gMu (a,b,u) i.toNat j.toNat/\True) (by kernel_rfl) ?_
 try dsimp only[aB,asT,aA,aC] at *
 have h1:0<=i/\i.toNat<a.length/\0<=j/\j.toNat<b.length/\a2d (a.getD i.toNat []) (b.getD j.toNat []):=hp
 exact⟨⟨h1.1,by omega,h1.2.2.1,by omega,h1.2.2.2.2,trivial⟩,trivial,rfl,trivial⟩
theorem jT:NOk Tryz.prog 110 (KU 167 TCo b4l gCo):=by
 refine rP (nil0.ad XV) ⟨[],[],[(11,tR)]⟩ Ec rfl (by decide) (fun x=>uJ x.1 x.2.1 (gCo x.2.2.1)) (fun x hp=>?_)
 obtain⟨m,n,c,u⟩:=x
 obtain⟨R,C,hR,hC,r2,c2,hP⟩:=hp
 change m=(R:Int) at hR
 change n=(C:Int) at hC
 subst hR hC
 refine bP (vP R C (gCo c) (b4l c) (fun y=>aY R C (gCo c)=y)) (by kernel_rfl) ?_
 exact nX r2 c2 hP rfl
theorem jV:NOk Tryz.prog 110 (KU 140 TTu b4q gTu):=by
 refine rP (nil0.ad YA) ⟨[],[],[(11,tR)]⟩ Ec rfl (by decide) (fun x=>uJ x.1 x.2.1 (gTu x.2.2.1)) (fun x hp=>?_)
 obtain⟨m,n,c,u⟩:=x
 obtain⟨R,C,hR,hC,r2,c2,hP⟩:=hp
 change m=(R:Int) at hR
 change n=(C:Int) at hC
 subst hR hC
 refine bP (vP R C (gTu c) (b4q c) (fun y=>aY R C (gTu c)=y)) (by kernel_rfl) ?_
 exact nX r2 c2 hP rfl
theorem jU:NOk Tryz.prog 110 (KU 111 TMu b4n gMu):=by
 refine rP (nil0.ad XY) ⟨[],[],[(11,tR)]⟩ Ec rfl (by decide) (fun x=>uJ x.1 x.2.1 (gMu x.2.2.1)) (fun x hp=>?_)
 obtain⟨m,n,c,u⟩:=x
 obtain⟨R,C,hR,hC,r2,c2,hP⟩:=hp
 change m=(R:Int) at hR
 change n=(C:Int) at hC
 subst hR hC
 refine bP (vP R C (gMu c) (b4n c) (fun y=>aY R C (gMu c)=y)) (by kernel_rfl) ?_
 exact nX r2 c2 hP rfl
theorem a0j (x:List Rat):eH (fun(x:Ty.den (Ty.lf Lf.rat))=>bY []) x:=lX.mpr fun _ _=>trivial
theorem uI (a:MQ):eH (fun(x:Ty.den (Ty.list (Ty.lf Lf.rat)))=>bY [eH (fun(x:Ty.den (Ty.lf Lf.rat))=>bY []) x]) a:=lX.mpr fun r _=>⟨a0j r,trivial⟩
theorem ifF {b:Bool} {p q:Prop} (h:b=false) (hq:q):ifB b p q:=by subst h;exact hq
theorem ifT {b:Bool} {p q:Prop} (h:b=true) (hp:p):ifB b p q:=by subst h;exact hp
theorem JE {x:Int} (h:x=0):(x != 0)=false:=by rw[h];rfl
theorem a5P {l:ML} (h:∀ a ∈ l,eP a=0):jG l=0:=by
 unfold jG
 rw[show l.any (fun a=>eP a != 0)=false from yj.mpr fun a ha=>by rw[h a ha];decide];rfl
theorem okM.pos {a:MQ} (h:okM a):0<a.length:=by have:=h.1.2.2.1;omega
theorem okM.poz {a:MQ} (h:okM a):(0:Int)<(a.length:Int):=by have:=h.pos;omega
theorem okM.r64 {a:MQ} (h:okM a):a.length<=64:=h.1.2.2.2.1
theorem okM.c1 {a:MQ} (h:okM a):1<=wdM a:=h.1.2.2.2.2.1
theorem okM.c64 {a:MQ} (h:okM a):wdM a<=64:=h.1.2.2.2.2.2
theorem okM.row {a:MQ} (h:okM a) {i:Nat} (hi:i<a.length):(a.getD i []).length=wdM a:=h.1.row hi
def b4c:BJ:=.mk LKm [tM] (fun x=>okM x.1) (fun x=>aY (show MQ from x.1).length (wdM (show MQ from x.1)) (ent x.1))
theorem a9A:NOk Tryz.prog 137 b4c:=by
 refine rP ((((nil0.ad XV).an jT).an jV).an jU) ⟨[],[],[]⟩ Tryz.func137 rfl (by decide) (fun x=>[]) (fun x hp=>?_)
 obtain⟨a,u⟩:=x
 change List (List Rat) at a
 refine bP ((asT Int 0<=0/\0<aB a.length/\DI TCo b4l (aB a.length,aB (List.getD a 0 (aC Rat)).length,(a,()),())/\True)/\aY a.length (wdM a) (ent a)=aY (aB a.length).toNat (aB (List.getD a 0 (aC Rat)).length).toNat (gCo (a,()))) (by kernel_rfl) ?_
 have ha:okM a:=hp
 exact⟨⟨xg 0,ha.poz,⟨a.length,wdM a,rfl,rfl,by have:=ha.r64;omega,by have:=ha.c64;omega,fun i j hi hj=>⟨ql i,hi,ql j,by show j<(a.getD i []).length;rw[ha.row hi];exact hj⟩⟩,trivial⟩,rfl⟩
def b3b:Ctr:=⟨[tM],[tM],fun x=>okM x.1,fun x=>(tab (wdM (show MQ from x.1)) (show MQ from x.1).length (tr (ent x.1)),())⟩
theorem WB:aW Tryz.prog 94 b3b:=by
 refine bH ((((nil0.ad YA).an jT).an jV).an jU) ⟨[],[],[]⟩ Tryz.func94 rfl (by decide) (fun x=>[]) (fun x hp=>?_)
 obtain⟨a,u⟩:=x
 change List (List Rat) at a
 refine bP ((asT Int 0<=0/\0<aB a.length/\DI TTu b4q (aB (List.getD a 0 (aC Rat)).length,aB a.length,(a,()),())/\True)/\(eH (fun(x:Ty.den (Ty.list (Ty.lf Lf.dG)))=>bY (eH (fun(x:Ty.den (Ty.lf Lf.dG))=>bY ((aF.ok x=true)::aC Prop)) x::aC Prop)) (aY (aB (List.getD a 0 (aC Rat)).length).toNat (aB a.length).toNat (gTu (a,())))/\True)/\List.map (fun(xs:Ty.den (Ty.list (Ty.lf Lf.dG)))=>List.map (fun(x:Ty.den (Ty.lf Lf.dG))=>aF.x x) xs) (aY (aB (List.getD a 0 (aC Rat)).length).toNat (aB a.length).toNat (gTu (a,())))=tab (wdM a) a.length (tr (ent a))/\True) (by kernel_rfl) ?_
 have ha:okM a:=hp
 exact⟨⟨xg 0,ha.poz,⟨wdM a,a.length,rfl,rfl,by have:=ha.c64;omega,by have:=ha.r64;omega,fun i j hi hj=>⟨ql i,ql j,hj,by show i<(a.getD j []).length;rw[ha.row hj];exact hi⟩⟩,trivial⟩,⟨uM _ _ _,trivial⟩,zX _ _ _,trivial⟩
def sqC (a:MQ):Int:=if a.length=wdM a then 0 else 4
def b2Z:Ctr:=⟨[tM],[tI],fun x=>okM x.1,fun x=>(sqC x.1,())⟩
theorem a5p:aW Tryz.prog 116 b2Z:=by
 refine bH (nil0.ad pJ) ⟨[],[],[]⟩ Tryz.func116 rfl (by decide) (fun x=>[]) (fun x hp=>?_)
 obtain⟨a,u⟩:=x
 change List (List Rat) at a
 refine bP (let A₀:=(List.map (fun(xs:Ty.den (Ty.list (Ty.lf Lf.rat)))=>List.map (fun(x:Ty.den (Ty.lf Lf.rat))=>fD x) xs) a);(eH (fun(x:Ty.den (Ty.list (Ty.lf Lf.rat)))=>bY (eH (fun(x:Ty.den (Ty.lf Lf.rat))=>bY (aC Prop)) x::aC Prop)) a/\iL A₀/\True)/\ifB (eP A₀ != 0) (True/\eP A₀=sqC a/\True) ((asT Int 0<=0/\0<aB a.length/\True)/\ifB (aB a.length != aB (List.getD a 0 (aC Rat)).length) (True/\4=sqC a/\True) (True/\0=sqC a/\True))) (by kernel_rfl) ?_
 have ha:okM a:=hp
 dsimp only[aB,asT,aA,aC] at *
 refine⟨⟨uI a,ha.short,trivial⟩,ifF (JE ha.chk) ⟨⟨xg 0,ha.poz,trivial⟩,?_⟩⟩
 by_cases h:a.length=wdM a
 ·exact ifF (by rw[a2J,ji.mpr h];rfl) ⟨trivial,(ig h).symm,trivial⟩
 ·exact ifT (by rw[a2J,jo.mpr h];rfl) ⟨trivial,(iq h).symm,trivial⟩
def b3a:Ctr:=⟨[tM],[tM,tI],fun x=>okM x.1,fun x=>(tab (wdM (show MQ from x.1)) (show MQ from x.1).length (tr (ent x.1)),(0:Int),())⟩
theorem vX:aW Tryz.prog 52 b3a:=by
 refine bH ((nil0.ad pJ).ad WB) ⟨[],[],[]⟩ Tryz.func52 rfl (by decide) (fun x=>[]) (fun x hp=>?_)
 obtain⟨a,u⟩:=x
 change List (List Rat) at a
 refine bP (let A₀:=(List.map (fun(xs:Ty.den (Ty.list (Ty.lf Lf.rat)))=>List.map (fun(x:Ty.den (Ty.lf Lf.rat))=>fD x) xs) a);(eH (fun(x:Ty.den (Ty.list (Ty.lf Lf.rat)))=>bY (eH (fun(x:Ty.den (Ty.lf Lf.rat))=>bY (aC Prop)) x::aC Prop)) a/\iL A₀/\True)/\ifB (eP A₀ != 0) (True/\aC (List Rat)=tab (wdM a) a.length (tr (ent a))/\True/\eP A₀=0/\True) ((okM a/\True)/\True/\tab (wdM a) a.length (tr (ent a))=tab (wdM a) a.length (tr (ent a))/\True/\asT Int 0=0/\True)) (by kernel_rfl) ?_
 have ha:okM a:=hp
 exact⟨⟨uI a,ha.short,trivial⟩,ifF (JE ha.chk) ⟨⟨ha,trivial⟩,trivial,rfl,trivial,rfl,trivial⟩⟩
def cMul:Ctr:=⟨[tM,tM],[tM,tI],fun x=>okM x.1/\okM x.2.1/\wdM (show MQ from x.1)=(show MQ from x.2.1).length/\szM x.1 1000000/\szM x.2.1 1000000,fun x=>(tab (show MQ from x.1).length (wdM (show MQ from x.2.1)) (mm (show MQ from x.2.1).length (ent x.1) (ent x.2.1)),(0:Int),())⟩
theorem QV:aW Tryz.prog 66 cMul:=by
 refine bH ((((((nil0.ad PI).ad XY).an jT).an jV).an jU).ad WB) ⟨[7],[],[]⟩ Tryz.func66 rfl (by decide) (fun x=>[]) (fun x hp=>?_)
 obtain⟨a,b,u⟩:=x
 change List (List Rat) at a
 change List (List Rat) at b
 refine bP (let aQ:=(a::b::aC (List (List Rat)));let bK:=(mm b.length (ent a) (ent b));let bZ:=(a,tab (wdM b) b.length (tr (ent b)),());let dJ:=(Ty.list (Ty.lf Lf.rat));let A₀:=(fun(xs:Ty.den (Ty.list dJ))=>List.map (fun(xs:Ty.den dJ)=>List.map (fun(x:Ty.den (Ty.lf Lf.rat))=>fD x) xs) xs);let A₂:=(fun(x:Ty.den dJ)=>bY (eH (fun(x:Ty.den (Ty.lf Lf.rat))=>bY (aC Prop)) x::aC Prop));let dS:=(List.getD b 0 (aC Rat)).length;let A₁:=(aY (aB a.length).toNat (aB dS).toNat (gMu bZ));(((eH A₂ a/\True)/\(eH A₂ b/\True)/\True)/\(List.length (List.map A₀ aQ)<=1000000/\∀ (a_1:List (List aF)),a_1 ∈ List.map A₀ aQ->iL a_1)/\True)/\ifB (jG (List.map A₀ aQ) != 0) (True/\aC (List Rat)=tab a.length (wdM b) bK/\True/\jG (List.map A₀ aQ)=0/\True) ((asT Int 0<=0/\0<aB a.length/\True)/\ifB (aB (List.getD a 0 (aC Rat)).length != aB b.length) (True/\aC (List Rat)=tab a.length (wdM b) bK/\True/\asT Int 4=0/\True) ((okM b/\True)/\(asT Int 0<=0/\0<aB b.length/\DI TMu b4n (aB a.length,aB dS,bZ,())/\True)/\(eH (fun(x:Ty.den (Ty.list (Ty.lf Lf.dG)))=>bY (eH (fun(x:Ty.den (Ty.lf Lf.dG))=>bY ((aF.ok x=true)::aC Prop)) x::aC Prop)) A₁/\True)/\List.map (fun(xs:Ty.den (Ty.list (Ty.lf Lf.dG)))=>List.map (fun(x:Ty.den (Ty.lf Lf.dG))=>aF.x x) xs) A₁=tab a.length (wdM b) bK/\True/\asT Int 0=0/\True))) (by kernel_rfl) ?_
 have hp:okM a/\okM b/\wdM a=b.length/\szM a 1000000/\szM b 1000000:=hp
 obtain⟨ha,hb,hw,sa,sb⟩:=hp
 have hk:jG [liftM a,liftM b]=0:=a5P fun m hm=>by
  rcases uo.mp hm with rfl|hm
  ·exact ha.chk
  ·rw[qh.mp hm];exact hb.chk
 have hs:∀ m ∈ [liftM a,liftM b],iL m:=fun m hm=>by
  rcases uo.mp hm with rfl|hm
  ·exact ha.short
  ·rw[qh.mp hm];exact hb.short
 have hrow:∀ j,j<wdM b->(tab (wdM b) b.length (tr (ent b))).getD j []=(List.range b.length).map (fun k=>ent b k j):=fun j hj=>jM hj
 have hd:∀ i,i<a.length->∀ j,j<wdM b->a2d (a.getD i []) ((tab (wdM b) b.length (tr (ent b))).getD j []):=fun i hi j hj=>by
  rw[hrow j hj]
  have hl:=ha.row hi
  refine⟨by rw[hl,hw];simp,by rw[hl];exact ha.c64,fun k hk=>?_⟩
  rw[hl] at hk
  refine⟨sa i hi k hk,?_⟩
  show rsz (((List.range b.length).map (fun k=>ent b k j)).getD k 0)<=_
  rw[gZ (by omega)];exact sb k (by omega) j hj
 refine⟨⟨⟨⟨uI a,trivial⟩,⟨uI b,trivial⟩,trivial⟩,⟨by show 2<=1000000;omega,hs⟩,trivial⟩,ifF (JE hk) ⟨⟨xg 0,ha.poz,trivial⟩,ifF (by dsimp only[aB];rw[a2J,ji.mpr hw];rfl) ⟨⟨hb,trivial⟩,⟨xg 0,hb.poz,⟨a.length,wdM b,rfl,rfl,by have:=ha.r64;omega,by have:=hb.c64;omega,fun i j hi hj=>⟨ql i,hi,ql j,by show j<(tab _ _ _).length;rw[bF];exact hj,hd i hi j hj⟩⟩,trivial⟩,⟨uM _ _ _,trivial⟩,(zX _ _ _).trans (fU fun i hi j hj=>?_),trivial,rfl,trivial⟩⟩⟩
 have hj:j<wdM b:=hj
 have hi:i<a.length:=hi
 show sm (a.getD i []).length (fun k=>lv (a.getD i []) k*lv ((tab (wdM b) b.length (tr (ent b))).getD j []) k)=sm b.length (fun k=>ent a i k*ent b k j)
 rw[ha.row hi,hw,hrow j hj]
 refine fE _ fun k hk=>?_
 show ent a i k*((List.range b.length).map (fun k=>ent b k j)).getD k 0=_
 rw[gZ hk]
def c1p:Ctr:=⟨[tQ,tQ],[tQ],fun x=>rsz x.1<=400000000/\rsz x.2.1<=400000000/\(show Rat from x.2.1)≠0,fun x=>((show Rat from x.1) / (show Rat from x.2.1),())⟩
theorem b1w:aW Tryz.prog 148 c1p:=by
 refine bH (nil0.ad c2R) ⟨[4,5],[],[]⟩ Tryz.func148 rfl (by decide) (fun x=>[]) (fun x hp=>?_)
 obtain⟨a,b,u⟩:=x
 change Rat at a
 change Rat at b
 refine bP (((rsz a<=400000000/\rsz b<=400000000)/\True)/\(aF.ok (b3o 14 a b).1=true/\True)/\aF.x (b3o 14 a b).1=a / b/\True) (by kernel_rfl) ?_
 have hp:rsz a<=400000000/\rsz b<=400000000/\b≠0:=hp
 have e:b3o 14 a b=(fD (a / b),(0:Int),()):=iq hp.2.2
 rw[e]
 exact⟨⟨⟨hp.1,hp.2.1⟩,trivial⟩,⟨rfl,trivial⟩,rfl,trivial⟩
def qV (x:LR) (o:LQ') (k:Rat) (s t:Nat):LR:=(List.range x.length).map fun c=>if s<=c/\c<t then fD ((x.getD c bU).x-k*lv o c) else x.getD c bU
theorem b2n (x:LR) (o:LQ') (k:Rat) (s t:Nat):(qV x o k s t).length=x.length:=by simp[qV]
theorem b4Q {x:LR} {o:LQ'} {k:Rat} {s t c:Nat} (h:c<x.length):(qV x o k s t).getD c bU=if s<=c/\c<t then fD ((x.getD c bU).x-k*lv o c) else x.getD c bU:=gZ h
theorem b7i (x:LR):(List.range x.length).map (fun c=>x.getD c bU)=x:=by
 apply Bh
 ·simp
 ·intro i h1 h2;simp[bf,h2]
theorem a8I (x:LR) (o:LQ') (k:Rat) (s:Nat):qV x o k s s=x:=by
 unfold qV
 rw[show (fun c=>if s<=c/\c<s then fD ((x.getD c bU).x-k*lv o c) else x.getD c bU)=(fun c=>x.getD c bU) from funext fun c=>iq (by omega)]
 exact b7i x
theorem b2p {x:LR} {o:LQ'} {k:Rat} {s t:Nat} (h:s<=t):(qV x o k s t).set t (fD ((x.getD t bU).x-k*lv o t))=qV x o k s (t+1):=by
 unfold qV;rw[map_set]
 refine jl fun c _=>?_
 by_cases e:c=t
 ·subst e;rw[ig rfl,ig ⟨h,by omega⟩]
 ·rw[iq e]
  by_cases h2:s<=c/\c<t
  ·rw[ig h2,ig ⟨h2.1,by omega⟩]
  ·rw[iq h2,iq (by omega)]
theorem a8H {x:LR} {o:LQ'} {k:Rat} {s t:Nat} (hx:∀ q ∈ x,q=fD q.x) (h:lv o t=0):qV x o k s (t+1)=qV x o k s t:=by
 unfold qV
 refine jl fun c hc=>?_
 by_cases h2:s<=c/\c<t
 ·rw[ig h2,ig ⟨h2.1,by omega⟩]
 ·rw[iq h2]
  split
  ·have e:c=t:=by omega
   subst e
   have h3:x.getD c bU=fD (x.getD c bU).x:=dY hx (vk.mp hc)
   rw[h,show (x.getD c bU).x-k*0=(x.getD c bU).x by grind,<-h3]
  ·rfl
theorem b2m {x:LR} {o:LQ'} {k:Rat} {s t:Nat} (h:x.length<=t):qV x o k s t=qV x o k s x.length:=by
 unfold qV
 refine jl fun c hc=>?_
 have:=vk.mp hc
 by_cases h2:s<=c
 ·rw[ig ⟨h2,by omega⟩,ig ⟨h2,by omega⟩]
 ·rw[iq (by omega),iq (by omega)]
def c4s:BJ:=.chg (.row 64 tR) [.list tQ,tQ,tI] [] (fun x y=>(∀ q ∈ (show LR from x),q=fD q.x)/\(show LR from x).length=(show LQ' from y.1).length/\(show LR from x).length<=1000/\0<=(show Int from y.2.2.1)/\(∀ q ∈ (show LR from x),rsz q.x<=400000000)/\rsz y.2.1<=100000000/\∀ q ∈ (show LQ' from y.1),rsz q<=100000000) (fun x y=>qV x y.1 y.2.1 (show Int from y.2.2.1).toNat (show LR from x).length) (fun _ _=>())
theorem c2P:NOk Tryz.prog 150 c4s:=by
 refine a6J (((nil0.ad b2N).ad b5O).ad ZX) ⟨[],[],[]⟩ Tryz.func150 rfl (by decide) (fun x y=>[.inv {k:Nat // (show Int from y.2.2.1).toNat<=k} (fun k=>[(8,.val tI (k.1:Int))]) (fun k=>[(0,.row 64 tR (qV x y.1 y.2.1 (show Int from y.2.2.1).toNat k.1) 0)]) (fun k=>(show LR from x).length-k.1) ⟨(show Int from y.2.2.1).toNat,aj _⟩ (fun _=>[])]) (fun x y hp=>?_)
 obtain⟨o,k,s,u⟩:=y
 change List aF at x
 change List Rat at o
 change Rat at k
 change Int at s
 refine bP ((s=aB s.toNat/\x=qV x o k s.toNat s.toNat/\True)/\∀ (i:{ k:Nat // Int.toNat s<=k }),let A₀:=(qV x o k s.toNat (aA i));let A₁:=(aB (aA i)).toNat;let A₂:=(List.getD A₀ A₁ { ok:=false,x:=0,g:=aC Nat,h:=aC Nat });asT Bool true=true/\ifB (decide (aB (aA i)<aB A₀.length)) ((0<=aB (aA i)/\aB (aA i)<aB o.length/\rsz (List.getD o A₁ 0)<=1000000000/\True)/\ifB (sgn (Rat.num (List.getD o A₁ 0)) != 0) ((0<=aB (aA i)/\aB (aA i)<aB A₀.length/\Int.toNat (aB (aA i))<List.length A₀/\0<=aB (aA i)/\aB (aA i)<aB o.length/\s44 k (List.getD o A₁ 0)/\aF.ok A₂=true/\s44 (aF.x A₂) (k*List.getD o A₁ 0)/\0<=aB (aA i)/\aB (aA i)<aB A₀.length/\Int.toNat (aB (aA i))<List.length A₀/\True)/\∃ (i':{ k:Nat // Int.toNat s<=k }),List.length x-aA i'<List.length x-aA i/\IntKind.wrap IntKind.i64 (aB (aA i)+1)=aB (aA i')/\List.set A₀ A₁ (fD (aF.x A₂-k*List.getD o A₁ 0))=qV x o k s.toNat (aA i')/\True) (∃ (i':{ k:Nat // Int.toNat s<=k }),List.length x-aA i'<List.length x-aA i/\IntKind.wrap IntKind.i64 (aB (aA i)+1)=aB (aA i')/\qV x o k s.toNat (aA i)=qV x o k s.toNat (aA i')/\True)) (qV x o k s.toNat x.length=qV x o k s.toNat (aA i))) (by kernel_rfl) ?_
 have hp:(∀ q ∈ x,q=fD q.x)/\x.length=o.length/\x.length<=1000/\0<=s/\(∀ q ∈ x,rsz q.x<=400000000)/\rsz k<=100000000/\∀ q ∈ o,rsz q<=100000000:=hp
 obtain⟨hq,hl,hm,hs,zx,zk,zo⟩:=hp
 have hZ:(⟨false,0,[],[]⟩:aF)=bU:=rfl
 dsimp only[aB,asT,aA,aC] at *
 simp only[hZ,Int.toNat_natCast,aT,ay,au,oh,ny,b2n]
 refine⟨⟨by omega,(a8I _ _ _ _).symm⟩,fun i=>⟨fun h1=>?_,fun h1=>?_⟩⟩
 ·have hi:i.1<x.length:=by omega
  have z1:rsz (o.getD i.1 0)<=100000000:=dY zo (by omega)
  have z2:rsz (x.getD i.1 bU).x<=400000000:=dY (p:=fun q:aF=>rsz q.x<=400000000) zx hi
  have z3:=lS k (o.getD i.1 0)
  have e1:(qV x o k s.toNat i.1).getD i.1 bU=x.getD i.1 bU:=by rw[b4Q hi,iq (by omega)]
  have e2:x.getD i.1 bU=fD (x.getD i.1 bU).x:=dY hq hi
  rw[e1]
  refine⟨⟨by omega,by omega,by omega⟩,fun h2=>⟨⟨by omega,by omega,hi,by omega,by omega,⟨by omega,by omega⟩,by rw[e2];rfl,⟨by omega,by omega⟩,by omega,by omega,hi⟩,⟨i.1+1,by have:=i.2;omega⟩,by simp only;omega,by rw[aZ (by omega) (by omega)];rfl,b2p i.2⟩,fun h2=>⟨⟨i.1+1,by have:=i.2;omega⟩,by simp only;omega,by rw[aZ (by omega) (by omega)];rfl,?_⟩⟩
  have h9:lv o i.1=0:=nZ.mp (by simpa using h2)
  exact(a8H hq h9).symm
 ·exact(b2m (by omega)).symm
def scl (m:Mt) (r j c:Nat) (v:Rat):Mt:=fun i d=>if i=r/\j<=d/\d<c then v*m i d else m i d
def elm (m:Mt) (r j t:Nat):Mt:=fun i d=>if i≠r/\i<t/\j<=d then m i d-m i j*m r d else m i d
theorem b1X (m:Mt) (r j:Nat) (v:Rat):scl m r j j v=m:=by
 funext i d;unfold scl;rw[iq (by omega)]
theorem b1W (m:Mt) {r j c:Nat} (h:j<=c) (v:Rat):scl m r j (c+1) v=fun i d=>if i=r then (fun e=>if e=c then v*m r c else scl m r j c v r e) d else scl m r j c v i d:=by
 funext i d
 unfold scl
 by_cases h1:i=r
 ·subst h1;simp only[Dn,oh]
  by_cases h2:d=c
  ·subst h2;rw[ig ⟨h,by omega⟩,ig rfl]
  ·rw[iq h2]
   by_cases h3:j<=d/\d<c
   ·rw[ig h3,ig ⟨h3.1,by omega⟩]
   ·rw[iq h3,iq (by omega)]
 ·simp only[iq h1];rw[iq (by simp[h1]),iq (by simp[h1])]
theorem c0k (m:Mt) {r j c:Nat} (v:Rat) {d:Nat} (h:c<=d) (i:Nat):scl m r j c v i d=m i d:=by unfold scl;rw[iq (by omega)]
theorem a9J (m:Mt) (r j:Nat):elm m r j 0=m:=by
 funext i d;unfold elm;rw[iq (by omega)]
theorem a2h (m:Mt) (r j t d:Nat):elm m r j t r d=m r d:=by unfold elm;rw[iq (by simp)]
theorem b6d (m:Mt) {r j t i:Nat} (h:t<=i) (d:Nat):elm m r j t i d=m i d:=by unfold elm;rw[iq (by omega)]
theorem a9I (m:Mt) {r j t:Nat} (h:t≠r):elm m r j (t+1)=fun i d=>if i=t then (fun e=>if j<=e then m t e-m t j*m r e else m t e) d else elm m r j t i d:=by
 funext i d
 unfold elm
 by_cases h1:i=t
 ·subst h1;simp only[Dn]
  by_cases h2:j<=d
  ·rw[ig ⟨h,by omega,h2⟩,ig h2]
  ·rw[iq (by omega),iq h2]
 ·simp only[iq h1]
  by_cases h2:i≠r/\i<t/\j<=d
  ·rw[ig h2,ig ⟨h2.1,by omega,h2.2.2⟩]
  ·rw[iq h2,iq (by omega)]
theorem a9H (m:Mt) {r j t:Nat} (h:t=r\/m t j=0):elm m r j (t+1)=elm m r j t:=by
 funext i d
 unfold elm
 by_cases h1:i=t
 ·subst h1
  rw[iq (c:=i≠r/\i<i/\j<=d) (by omega)]
  rcases h with h|h
  ·rw[iq (by simp[h])]
  ·split
   ·rw[h];grind
   ·rfl
 ·by_cases h2:i≠r/\i<t/\j<=d
  ·rw[ig h2,ig ⟨h2.1,by omega,h2.2.2⟩]
  ·rw[iq h2,iq (by omega)]
theorem b4P {m:Mt} {R C r k j:Nat} (hz:m k j≠0) (hr:r<=k) (hk:k<R) (h0:∀ i,r<=i->i<R->∀ d,d<j->m i d=0) :
  ∀ i,i<R->∀ d,d<C->elm (scl (iO m r k) r j C (1 / m k j)) r j R i d=kR m r k j i d:=by
 intro i hi d hd
 have hs:∀ e,iO m r k r e=m k e:=fun e=>by unfold iO;rw[ig rfl]
 have hv:m k j*(m k j)⁻¹=1:=Rat.mul_inv_cancel _ hz
 have hrow:∀ e,e<C->scl (iO m r k) r j C (1 / m k j) r e=m k e / m k j:=fun e he=>by
  unfold scl
  by_cases h:j<=e
  ·rw[ig ⟨rfl,h,he⟩,hs,Rat.div_def,Rat.div_def];grind
  ·rw[iq (by omega),hs,h0 k hr hk e (by omega),Rat.div_def];grind
 by_cases e1:i=r
 ·subst e1
  rw[a2h,hrow d hd];unfold kR;rw[ig rfl]
 ·have hoth:∀ e,scl (iO m r k) r j C (1 / m k j) i e=iO m r k i e:=fun e=>by unfold scl;rw[iq (by simp[e1])]
  unfold kR;rw[iq e1]
  unfold elm
  by_cases h:j<=d
  ·rw[ig ⟨e1,hi,h⟩,hoth,hoth,hrow d hd]
  ·rw[iq (by omega),hoth,h0 k hr hk d (by omega),Rat.div_def];grind
theorem b2k {m:Mt} {R C r k j:Nat} :
  ∀ i,i<R->∀ d,d<C->(if i=r then iO m r k r d / m k j else iO m r k i d-iO m r k i j*(iO m r k r d / m k j))=kR m r k j i d:=by
 intro i _ d _
 have hs:∀ e,iO m r k r e=m k e:=fun e=>by unfold iO;rw[ig rfl]
 unfold kR
 rw[hs]
def FX (R C:Nat) (e:Mt) (n:Nat):Prop:=∀ t,t<=n->∀ i,i<R->∀ c,c<C->rsz ((red R e t).1 i c)<=10000000
theorem QX {R C n K:Nat} {e:Mt} (H:Cd e R C K) (hn:n<=C) (hK:2 ^ n*(K+1)<=10000000):FX R C e n:=fun t ht i hi c hc=>by
 have h1:=(H.red t (by omega)).rsz hi hc
 have h2:2 ^ t*(K+1)<=2 ^ n*(K+1):=ou (yc (by omega) ht) (aj _)
 omega
theorem FX.at {R C n:Nat} {e:Mt} (h:FX R C e n) {i c:Nat} (hi:i<R) (hc:c<C):rsz (e i c)<=10000000:=h 0 (by omega) i hi c hc
theorem FX.mono {R C n m:Nat} {e:Mt} (h:FX R C e n) (hm:m<=n):FX R C e m:=fun t ht=>h t (by omega)
theorem a3p {R:Nat} {e:Mt} {n k:Nat} (hk:fk (red R e n).1 n (red R e n).2.length (R-(red R e n).2.length)=k) (hkR:k≠R):red R e (n+1)=(kR (red R e n).1 (red R e n).2.length k n,(red R e n).2++[n]):=by
 subst hk;exact iq hkR
theorem a3o {R:Nat} {e:Mt} {n:Nat} (hk:fk (red R e n).1 n (red R e n).2.length (R-(red R e n).2.length)=R):red R e (n+1)=red R e n:=ig hk
def JF (a:MQ) (n:Nat):Mt × List Nat:=red a.length (ent a) n
def rkM (a:MQ):Nat:=(JF a (wdM a)).2.length
def mulM (a b:MQ):MQ:=tab a.length (wdM b) (mm b.length (ent a) (ent b))
def trM (a:MQ):MQ:=tab (wdM a) a.length (tr (ent a))
def QB (a b:MQ):MQ:=tab a.length (wdM a) (ma (ent a) (ent b))
def XH (a b:MQ):MQ:=tab a.length (wdM a) (ms (ent a) (ent b))
def idM (n:Nat):MQ:=tab n n idm
def KN (a:MQ):Mt × List Nat:=red a.length (jK a.length (ent a) idm) a.length
def pU (a:MQ):Bool:=decide ((KN a).2.length=a.length)
def mW (a:MQ):MQ:=tab a.length a.length fun i j=>(KN a).1 i (a.length+j)
def mvL (a:MQ) (x:List Rat):List Rat:=(List.range a.length).map (mv (wdM a) (ent a) (lv x))
instance c4B (N:Nat) (p:Nat->Prop) [DecidablePred p]:Decidable (∀ i,i<N->p i):=Nat.decidableBallLT N (fun i _=>p i)
def tY (a:MQ):Bool:=decide (∀ i,i<a.length->∀ j,j<a.length->ent a i j=ent a j i)
def IB (a:MQ):Bool:=decide (∀ i,i<a.length->∀ j,j<wdM a->ent a i j=0)
def rG (n g:MQ):Bool:=tY n&&IB (mulM n g)&&decide (rkM g=wdM g)&&decide (rkM g+rkM n=n.length)
def sU (a:MQ):MQ:=(frees (wdM a) (JF a (wdM a)).2).map fun j=>(List.range (wdM a)).map (QF (JF a (wdM a)).1 (JF a (wdM a)).2 j)
def iC (a:MQ) (x:List Rat):Mt × List Nat:=red a.length (jK (wdM a) (ent a) (fun i _=>lv x i)) (wdM a)
def XF (a:MQ) (x:List Rat):Bool:=decide (∀ i,i<a.length->(iC a x).2.length<=i->(iC a x).1 i (wdM a)=0)
def FZ (a:MQ) (x:List Rat):List Rat:=(List.range (wdM a)).map (xs (iC a x).1 (iC a x).2 (wdM a))
def CdM (a:MQ) (K:Nat):Prop:=Cd (ent a) a.length (wdM a) K
theorem isM.len {a:MQ} {R C:Nat} (h:isM a R C):a.length=R:=h.1
theorem isM.self {a:MQ} {R C:Nat} (h:isM a R C):isM a a.length (wdM a):=by rw[h.len,h.wd];exact h
theorem VX {R C:Nat} {f:Nat->Nat->Rat} (h:1<=R):wdM (tab R C f)=C:=by
 show ((tab R C f).getD 0 []).length=C;rw[jM (by omega)];simp
theorem JJ {R C K:Nat} {f:Mt} (h:1<=R) (H:Cd f R C K):CdM (tab R C f) K:=by
 unfold CdM;rw[bF,VX h];exact H.congr fun i hi j hj=>mF hi hj
theorem CdM.sz {a:MQ} {K L:Nat} (H:CdM a K) (h:K<=L):szM a L:=fun i hi j hj=>jg (Cd.rsz H hi hj) h
theorem CdM.ok {a:MQ} {R C K:Nat} (H:CdM a K) (h:isM a R C) (hK:K<=100000000):okM a:=⟨h.self,H.sz hK⟩
theorem isM.mul {a b:MQ} {R C D n:Nat} (h:isM a R C) (g:isM b n D):isM (mulM a b) R D:=by
 unfold mulM;rw[h.len,g.wd];exact uN h.2.2.1 h.2.2.2.1 g.2.2.2.2.1 g.2.2.2.2.2
theorem isM.trp {a:MQ} {R C:Nat} (h:isM a R C):isM (trM a) C R:=by
 unfold trM;rw[h.len,h.wd];exact uN h.2.2.2.2.1 h.2.2.2.2.2 h.2.2.1 h.2.2.2.1
theorem isM.add {a b:MQ} {R C:Nat} (h:isM a R C):isM (QB a b) R C:=by
 unfold QB;rw[h.len,h.wd];exact uN h.2.2.1 h.2.2.2.1 h.2.2.2.2.1 h.2.2.2.2.2
theorem isM.sub {a b:MQ} {R C:Nat} (h:isM a R C):isM (XH a b) R C:=by
 unfold XH;rw[h.len,h.wd];exact uN h.2.2.1 h.2.2.2.1 h.2.2.2.2.1 h.2.2.2.2.2
theorem JA {n:Nat} (h:1<=n) (h2:n<=64):isM (idM n) n n:=uN h h2 h h2
theorem isM.inv {a:MQ} {n C:Nat} (h:isM a n C):isM (mW a) n n:=by
 unfold mW;rw[h.len];exact uN h.2.2.1 h.2.2.2.1 h.2.2.1 h.2.2.2.1
theorem CdM.mul {a b:MQ} {R n C K L:Nat} (H:CdM a K) (G:CdM b L) (h:isM a R n) (g:isM b n C):CdM (mulM a b) (K+L+n):=by
 unfold mulM;rw[h.len,g.len,g.wd]
 refine JJ h.2.2.1 (Cd.mm ?_ ?_)
 ·have:=H;unfold CdM at this;rwa [h.len,h.wd] at this
 ·have:=G;unfold CdM at this;rwa [g.len,g.wd] at this
theorem CdM.trp {a:MQ} {R C K:Nat} (H:CdM a K) (h:isM a R C):CdM (trM a) K:=by
 unfold trM;rw[h.len,h.wd]
 refine JJ h.2.2.2.2.1 (Cd.tr ?_)
 have:=H;unfold CdM at this;rwa [h.len,h.wd] at this
theorem CdM.add {a b:MQ} {R C K L:Nat} (H:CdM a K) (G:CdM b L) (h:isM a R C) (g:isM b R C):CdM (QB a b) (K+L+1):=by
 unfold QB;rw[h.len,h.wd]
 refine JJ h.2.2.1 (Cd.add ?_ ?_)
 ·have:=H;unfold CdM at this;rwa [h.len,h.wd] at this
 ·have:=G;unfold CdM at this;rwa [g.len,g.wd] at this
theorem CdM.sub {a b:MQ} {R C K L:Nat} (H:CdM a K) (G:CdM b L) (h:isM a R C) (g:isM b R C):CdM (XH a b) (K+L+1):=by
 unfold XH;rw[h.len,h.wd]
 refine JJ h.2.2.1 (Cd.sub ?_ ?_)
 ·have:=H;unfold CdM at this;rwa [h.len,h.wd] at this
 ·have:=G;unfold CdM at this;rwa [g.len,g.wd] at this
theorem a3Y {n:Nat} (h:1<=n):CdM (idM n) 1:=JJ h (Cd.idm n n)
theorem CdM.KN {a:MQ} {n K:Nat} (H:CdM a K) (h:isM a n n):Cd (jK n (ent a) idm) n (n+n) (K+1):=by
 have:=H;unfold CdM at this;rw[h.len,h.wd] at this
 exact Cd.bes this (Cd.idm n n)
theorem CdM.inv {a:MQ} {n K:Nat} (H:CdM a K) (h:isM a n n):CdM (mW a) (2 ^ n*(K+2)-1):=by
 unfold mW Proofs.YtgplhbhfdgempaaGreat.KN;rw[h.len]
 refine JJ h.2.2.1 ?_
 have H2:=Cd.red (H.KN h) n (by omega)
 obtain⟨D,d1,d2,d3⟩:=H2
 exact⟨D,d1,d2,fun i hi j hj=>d3 i hi (n+j) (by omega)⟩
theorem a8U {a:MQ} {R C:Nat} (h:isM a R C) (h1:szM a 1):CdM a (R*(C+1)+2):=by
 unfold CdM;rw[h.len,h.wd]
 exact Cd.of fun i hi j hj=>h1 i (by rw[h.len];exact hi) j (by rw[h.wd];exact hj)
def okE (a:MQ):Prop:=okM a/\FX a.length (wdM a) (ent a) (wdM a)
theorem LZ {R C:Nat} {f:Nat->Nat->Rat} {i j:Nat} (v:Rat) (hi:i<R):(tab R C f).set i (((tab R C f).getD i []).set j v)=tab R C (fun a b=>if a=i/\b=j then v else f a b):=by
 rw[jM hi,map_set]
 unfold tab;rw[map_set]
 refine jl fun k _=>?_
 by_cases e:k=i
 ·subst e;rw[ig rfl]
  refine jl fun d _=>?_
  show _=if k=k/\d=j then v else f k d
  by_cases e2:d=j
  ·rw[ig e2,ig ⟨rfl,e2⟩]
  ·rw[iq e2,iq (fun h=>e2 h.2)]
 ·rw[iq e]
  refine jl fun d _=>?_
  show _=if k=i/\d=j then v else f k d
  rw[iq (fun h=>e h.1)]
def JY (a:MQ):MQ:=tab a.length (wdM a) (JF a (wdM a)).1
def lN (a:MQ):List Nat:=(JF a (wdM a)).2
def dA (l:List Nat):List Int:=l.map fun p:Nat=>(p:Int)
theorem sO (l:List Nat):(dA l).length=l.length:=by simp[dA]
theorem RH (R r k:Nat):((List.range R).set r k).set k r=(List.range R).map (fun i=>if i=k then r else if i=r then k else i):=by
 have h:=map_set (fun i=>i) R r k
 rw[List.map_id'] at h
 rw[h,map_set]
theorem b2u {R C r k:Nat} {m:Mt} (hr:r<R) (hk:k<R):List.map (fun t=>(tab R C m).getD t []) (((List.range R).set r k).set k r)=tab R C (iO m r k):=by
 rw[RH,List.map_map]
 unfold tab
 refine jl fun i hi=>?_
 have hi:=vk.mp hi
 show (tab R C m).getD (if i=k then r else if i=r then k else i) []=_
 have hb:(if i=k then r else if i=r then k else i)<R:=by
  split
  ·exact hr
  ·split
   ·exact hk
   ·exact hi
 rw[jM hb]
 refine jl fun c _=>?_
 unfold iO
 by_cases e1:i=k
 ·by_cases e2:i=r
  ·rw[ig e1,ig e2];have:r=k:=by omega
   rw[this]
  ·rw[ig e1,iq e2,ig e1]
 ·by_cases e2:i=r
  ·rw[iq e1,ig e2,ig e2]
  ·rw[iq e1,iq e2,iq e2,iq e1]
theorem b2v (R:Nat) {r k:Nat} (hr:r<R) (hk:k<R):(((List.range R).set r k).set k r).Nodup:=by
 rw[RH]
 refine List.nodup_iff_pairwise_ne.mpr (List.pairwise_iff_getElem.mpr fun i j hi hj h=>?_)
 simp only[List.getElem_map,List.getElem_range]
 split<;>split<;>(try split)<;>(try split)<;>omega
theorem swp_get {R r k:Nat} (hr:r<R):(((List.range R).set r k).set k r).getD r 0=k:=by
 rw[RH,gZ hr]
 by_cases e:r=k
 ·rw[ig e];exact e
 ·rw[iq e,ig rfl]
theorem a2I (l:List Nat) (j:Nat):(dA l).any (fun q=>q==(j:Int))=decide (j ∈ l):=by
 unfold dA
 rw[List.any_map]
 by_cases h:j ∈ l
 ·rw[pz h];exact vw.mpr ⟨j,h,beq_self_eq_true _⟩
 ·rw[oq h]
  refine yj.mpr fun q hq=>?_
  show ¬ ((q:Int)==(j:Int))=true
  intro e
  have:(q:Int)=j:=eq_of_beq e
  exact h (by rw[<-show q=j by omega];exact hq)
theorem a9Q {p:List Nat} {j:Nat} (h:j ∈ p):frees (j+1) p=frees j p:=by unfold frees;rw[Bv,List.filter_append];simp[h]
theorem a7R {p:List Nat} {j:Nat} (h:j ∉ p):frees (j+1) p=frees j p++[j]:=by unfold frees;rw[Bv,List.filter_append];simp[h]
theorem yN {p:List Nat} {t d:Nat} (ht:t<p.length):d ∈ p.take (t+1)↔d ∈ p.take t\/d=p[t]:=by
 rw[Di,bn ht,vg]
 simp only[Option.toList,qh]
end Go.Proofs.YtgplhbhfdgempaaGreat
