/-
  Lemmas for the theorem vnulls_holds, part 23 of 36.
-/
import Derived.Test.YtgplhbhfdgempaaGreatNu22
namespace Go.Proofs.YtgplhbhfdgempaaGreat
open Go Go.RowKit
def Cd (e:Mt) (R C K:Nat):Prop:=∃ D:Nat,0<D/\nsz D<=K/\∀ i,i<R->∀ j,j<C->∃ z:Int,e i j*(D:Nat)=(z:Int)/\isz z<=K
theorem ZG {D:Nat} (h:0<D):((D:Nat):Rat)≠0:=fun h1=>by
 have:((D:Nat):Rat)=((0:Nat):Rat):=h1
 have:=Rat.natCast_inj.mp this;omega
theorem Cd.rsz {e:Mt} {R C K:Nat} (H:Cd e R C K) {i j:Nat} (h1:i<R) (h2:j<C):rsz (e i j)<=K:=by
 obtain⟨D,h0,hD,h⟩:=H
 obtain⟨z,hz,hs⟩:=h i h1 j h2
 have e1:e i j=Rat.divInt z D:=by
  rw[Rat.divInt_eq_div,<-hz,Rat.div_def]
  have:((D:Int):Rat)=((D:Nat):Rat):=Rat.intCast_natCast D
  rw[this,Rat.mul_assoc,Rat.mul_inv_cancel _ (ZG h0)];grind
 rw[e1]
 exact xP _ _ (by omega) hs (by unfold isz;simpa using hD)
theorem Cd.mono {e:Mt} {R C K L:Nat} (H:Cd e R C K) (h:K<=L):Cd e R C L:=by
 obtain⟨D,h0,hD,hh⟩:=H
 exact⟨D,h0,by omega,fun i h1 j h2=>by obtain⟨z,hz,hs⟩:=hh i h1 j h2;exact⟨z,hz,by omega⟩⟩
theorem Cd.congr {e f:Mt} {R C K:Nat} (H:Cd e R C K) (h:∀ i,i<R->∀ j,j<C->f i j=e i j):Cd f R C K:=by
 obtain⟨D,h0,hD,hh⟩:=H
 exact⟨D,h0,hD,fun i h1 j h2=>by rw[h i h1 j h2];exact hh i h1 j h2⟩
theorem Cd.tr {e:Mt} {R C K:Nat} (H:Cd e R C K):Cd (tr e) C R K:=by
 obtain⟨D,h0,hD,hh⟩:=H
 exact⟨D,h0,hD,fun i h1 j h2=>hh j h2 i h1⟩
theorem b3a {f:Nat->Rat} {D K:Nat}:∀ n,(∀ k,k<n->∃ z:Int,f k*(D:Nat)=(z:Int)/\isz z<=K)->∃ z:Int,sm n f*(D:Nat)=(z:Int)/\isz z<=K+n
 | 0,_=>⟨0,by show (0:Rat)*_=_;rw[Rat.zero_mul];rfl,by rw[GU];omega⟩
 | n+1,h=>by
  have ⟨z,h1,h2⟩:=b3a n (fun k hk=>h k (by omega))
  have ⟨y,h3,h4⟩:=h n (by omega)
  refine⟨z+y,?_,by have:=CG z y;omega⟩
  show (sm n f+f n)*_=_
  rw[Rat.intCast_add,<-h1,<-h3];grind
theorem tN (a b:Nat):((a*b:Nat):Rat)=(a:Rat)*(b:Rat):=Rat.natCast_mul a b
theorem Cd.mm {a b:Mt} {R n C K L:Nat} (H:Cd a R n K) (G:Cd b n C L):Cd (mm n a b) R C (K+L+n):=by
 obtain⟨D,h0,hD,hh⟩:=H
 obtain⟨E,g0,gD,gg⟩:=G
 refine⟨D*E,Nat.mul_pos h0 g0,by have:=uQ D E;omega,fun i hi j hj=>b3a n fun k hk=>?_⟩
 obtain⟨z,h1,h2⟩:=hh i hi k hk
 obtain⟨y,h3,h4⟩:=gg k hk j hj
 exact⟨z*y,by rw[Rat.intCast_mul,<-h1,<-h3,tN];grind,by have:=dY z y;omega⟩
theorem Cd.two {a b:Mt} {R C K L:Nat} (H:Cd a R C K) (G:Cd b R C L) (s:Int) (hs:s=1\/s=-1):Cd (fun i j=>a i j+s*b i j) R C (K+L+1):=by
 obtain⟨D,h0,hD,hh⟩:=H
 obtain⟨E,g0,gD,gg⟩:=G
 refine⟨D*E,Nat.mul_pos h0 g0,by have:=uQ D E;omega,fun i hi j hj=>?_⟩
 obtain⟨z,h1,h2⟩:=hh i hi j hj
 obtain⟨y,h3,h4⟩:=gg i hi j hj
 refine⟨z*E+s*(y*D),?_,?_⟩
 ·rw[Rat.intCast_add,Rat.intCast_mul,Rat.intCast_mul,Rat.intCast_mul,<-h1,<-h3,tN,Rat.intCast_natCast,Rat.intCast_natCast];grind
 ·have a1:=dY z E;have a2:=dY y D
  have a3:isz ((E:Nat):Int)<=L:=by unfold isz;simpa using gD
  have a4:isz ((D:Nat):Int)<=K:=by unfold isz;simpa using hD
  have a5:=CG (z*E) (s*(y*D))
  have a6:isz (s*(y*D))=isz (y*D):=by
   rcases hs with h|h
   ·rw[h,Int.one_mul]
   ·rw[h,Int.neg_one_mul,lX]
  omega
theorem Cd.add {a b:Mt} {R C K L:Nat} (H:Cd a R C K) (G:Cd b R C L):Cd (ma a b) R C (K+L+1) :=
 (H.two G 1 (Or.inl rfl)).congr fun i _ j _=>by show a i j+b i j=a i j+((1:Int):Rat)*b i j;rw[show ((1:Int):Rat)=1 from rfl];grind
theorem Cd.sub {a b:Mt} {R C K L:Nat} (H:Cd a R C K) (G:Cd b R C L):Cd (ms a b) R C (K+L+1) :=
 (H.two G (-1) (Or.inr rfl)).congr fun i _ j _=>by show a i j-b i j=a i j+((-1:Int):Rat)*b i j;rw[show ((-1:Int):Rat)=-1 from rfl];grind
theorem Cd.idm (R C:Nat):Cd idm R C 1:=by
 refine⟨1,by omega,xC (x:=(1:Int)) (k:=1) (by unfold BB;decide),fun i _ j _=>⟨if i=j then 1 else 0,?_,?_⟩⟩
 ·show (if i=j then (1:Rat) else 0)*((1:Nat):Rat)=((if i=j then (1:Int) else 0:Int):Rat)
  rw[show ((1:Nat):Rat)=1 from rfl,Rat.mul_one]
  by_cases h:i=j
  ·rw[if_pos h,if_pos h];rfl
  ·rw[if_neg h,if_neg h];rfl
 ·split
  ·exact xC (by unfold BB;decide)
  ·rw[GU];omega
theorem Cd.bes {a b:Mt} {R n C K L:Nat} (H:Cd a R n K) (G:Cd b R C L):Cd (jV n a b) R (n+C) (K+L):=by
 obtain⟨D,h0,hD,hh⟩:=H
 obtain⟨E,g0,gD,gg⟩:=G
 have a3:isz ((E:Nat):Int)<=L:=by unfold isz;simpa using gD
 have a4:isz ((D:Nat):Int)<=K:=by unfold isz;simpa using hD
 refine⟨D*E,Nat.mul_pos h0 g0,by have:=uQ D E;omega,fun i hi j hj=>?_⟩
 unfold jV
 by_cases h:j<n
 ·obtain⟨z,h1,h2⟩:=hh i hi j h
  refine⟨z*E,?_,by have:=dY z E;omega⟩
  rw[if_pos h,Rat.intCast_mul,<-h1,tN,Rat.intCast_natCast];grind
 ·obtain⟨z,h1,h2⟩:=gg i hi (j-n) (by omega)
  refine⟨z*D,?_,by have:=dY z D;omega⟩
  rw[if_neg h,Rat.intCast_mul,<-h1,tN,Rat.intCast_natCast];grind
theorem Cd.step {e:Mt} {R C K r k j:Nat} (H:Cd e R C K) (hr:r<R) (hk:k<R) (hj:j<C) (hz:e k j≠0):Cd (jZ e r k j) R C (2*K+1):=by
 obtain⟨D,h0,hD,hh⟩:=H
 obtain⟨p,p1,p2⟩:=hh k hk j hj
 have a4:isz ((D:Nat):Int)<=K:=by unfold isz;simpa using hD
 have hsw:∀ i,i<R->∀ c,c<C->∃ z:Int,iC e r k i c*(D:Nat)=(z:Int)/\isz z<=K:=fun i hi c hc=>by
  unfold iC;split
  ·exact hh k hk c hc
  ·split
   ·exact hh r hr c hc
   ·exact hh i hi c hc
 have hp:p≠0:=fun h=>by
  rw[h] at p1
  have h3:e k j*(D:Nat)=0:=p1
  have h2:=ZG h0
  have:e k j*(D:Nat)*((D:Nat):Rat)⁻¹=e k j:=by rw[Rat.mul_assoc,Rat.mul_inv_cancel _ h2];grind
  rw[h3] at this;exact hz (by rw[<-this];grind)
 have hpR:(p:Rat)≠0:=fun h=>hp (Rat.intCast_inj.mp h)
 have hpa:((p.natAbs:Nat):Rat)=(p.sign:Rat)*p:=by
  rw[<-Rat.intCast_natCast,<-Rat.intCast_mul,show p.sign*p=(p.natAbs:Int) by rw[Int.sign_mul_self]]
 have hs:isz p.sign<=1:=by
  refine xC ?_
  have:=Int.natAbs_sign_of_ne_zero hp;rw[this];unfold BB;decide
 have hsm:∀ y:Int,isz (p.sign*y)=isz y:=fun y=>by
  rcases Int.lt_trichotomy p 0 with h|h|h
  ·rw[Int.sign_eq_neg_one_of_neg h,Int.neg_one_mul,lX]
  ·exact absurd h hp
  ·rw[Int.sign_eq_one_of_pos h,Int.one_mul]
 refine⟨D*p.natAbs,Nat.mul_pos h0 (Int.natAbs_pos.mpr hp),by have:=uQ D p.natAbs;unfold isz at p2;omega,fun i hi c hc=>?_⟩
 obtain⟨y,y1,y2⟩:=hh k hk c hc
 have hdv:e k c / e k j*p=y:=by
  rw[<-p1,<-y1,Rat.div_def]
  have:=Rat.mul_inv_cancel _ hz;grind
 unfold jZ
 by_cases h:i=r
 ·refine⟨p.sign*(y*D),?_,by rw[hsm];have:=dY y D;omega⟩
  rw[if_pos h,tN,hpa,Rat.intCast_mul,Rat.intCast_mul,Rat.intCast_natCast,<-hdv];grind
 ·obtain⟨z,z1,z2⟩:=hsw i hi c hc
  obtain⟨x,x1,x2⟩:=hsw i hi j hj
  refine⟨p.sign*(z*p-x*y),?_,?_⟩
  ·rw[if_neg h,tN,hpa,Rat.intCast_mul,Rat.intCast_sub,Rat.intCast_mul,Rat.intCast_mul,<-z1,<-x1,<-hdv];grind
  ·rw[hsm];have b1:=YV (z*p) (x*y);have b2:=dY z p;have b3:=dY x y;omega
theorem Cd.red {e:Mt} {R C K:Nat} (H:Cd e R C K):∀ n,n<=C->Cd (red R e n).1 R C (2 ^ n*(K+1)-1)
 | 0,_=>H.mono (by omega)
 | n+1,hn=>by
  have ih:=Cd.red H n (by omega)
  have E:=gX R e n
  rw[a1L]
  have ⟨k1,k2⟩:=VO (Proofs.YtgplhbhfdgempaaGreat.red R e n).1 n (R-(Proofs.YtgplhbhfdgempaaGreat.red R e n).2.length) (Proofs.YtgplhbhfdgempaaGreat.red R e n).2.length
  have k4:=a0P (Proofs.YtgplhbhfdgempaaGreat.red R e n).1 n (R-(Proofs.YtgplhbhfdgempaaGreat.red R e n).2.length) (Proofs.YtgplhbhfdgempaaGreat.red R e n).2.length
  have hle:=E.le
  split
  ·exact ih.mono (by have:=Nat.mul_le_mul_right (K+1) (Nat.pow_le_pow_right (show 0<2 by omega) (show n<=n+1 by omega));omega)
  ·rename_i h
   refine(ih.step (r:=(Proofs.YtgplhbhfdgempaaGreat.red R e n).2.length) (by omega) (by omega) (show n<C by omega) (k4 (by omega))).mono ?_
   have h1:0<2 ^ n*(K+1):=Nat.mul_pos (Nat.pow_pos (by omega)) (by omega)
   rw[Nat.pow_succ,Nat.mul_comm (2 ^ n) 2,Nat.mul_assoc];omega
def pd:Nat->(Nat->Nat)->Nat
 | 0,_=>1
 | n+1,f=>pd n f*f n
theorem a3r {f:Nat->Nat}:∀ n,(∀ k,k<n->0<f k)->0<pd n f
 | 0,_=>Nat.one_pos
 | n+1,h=>Nat.mul_pos (a3r n (fun k hk=>h k (by omega))) (h n (by omega))
theorem a3p {f:Nat->Nat} {k:Nat}:∀ n,k<n->f k ∣ pd n f
 | 0,h=>by omega
 | n+1,h=>by
  show f k ∣ pd n f*f n
  by_cases e:k=n
  ·rw[e];exact Nat.dvd_mul_left _ _
  ·exact Nat.dvd_trans (a3p n (by omega)) (Nat.dvd_mul_right _ _)
theorem a3q {f:Nat->Nat} {K:Nat}:∀ n,(∀ k,k<n->nsz (f k)<=K)->nsz (pd n f)<=n*K+1
 | 0,_=>by
  have:isz ((1:Nat):Int)<=1:=xC (by unfold BB;decide)
  show nsz 1<=_;unfold isz at this;simp at this;omega
 | n+1,h=>by
  have h1:=a3q n (fun k hk=>h k (by omega))
  have h2:=h n (by omega)
  have h3:=uQ (pd n f) (f n)
  show nsz (pd n f*f n)<=_;rw[Nat.succ_mul];omega
theorem Cd.of {e:Mt} {R C:Nat} (h:∀ i,i<R->∀ j,j<C->Proofs.YtgplhbhfdgempaaGreat.rsz (e i j)<=1):Cd e R C (R*(C+1)+2):=by
 have hp:0<pd R (fun i=>pd C (fun j=>(e i j).den)):=a3r R fun i _=>a3r C fun j _=>(e i j).den_pos
 have hn:nsz (pd R (fun i=>pd C (fun j=>(e i j).den)))<=R*(C+1)+1:=a3q R fun i hi=>by
  have:=a3q (f:=fun j=>(e i j).den) (K:=1) C fun j hj=>Nat.le_trans (Nat.le_max_right _ _) (h i hi j hj)
  omega
 refine⟨_,hp,by omega,fun i hi j hj=>?_⟩
 have ⟨q,hq⟩:(e i j).den ∣ pd R (fun i=>pd C (fun j=>(e i j).den)):=Nat.dvd_trans (a3p (f:=fun j=>(e i j).den) C hj) (a3p (f:=fun i=>pd C (fun j=>(e i j).den)) R hi)
 refine⟨(e i j).num*q,?_,?_⟩
 ·rw[hq,tN,Rat.intCast_mul,Rat.intCast_natCast]
  have h1:e i j*((e i j).den:Rat)=(e i j).num:=by
   have h2:=Rat.num_divInt_den (e i j)
   have h3:=Rat.inv_mul_cancel _ (ZG (e i j).den_pos)
   rw[Rat.divInt_eq_div,Rat.div_def,Rat.intCast_natCast] at h2
   generalize ((e i j).num:Rat)=x at *
   generalize ((e i j).den:Rat)=y at *
   rw[<-h2,Rat.mul_assoc,h3,Rat.mul_one]
  rw[<-h1];grind
 ·have a1:=dY (e i j).num q
  have a2:isz (e i j).num<=1:=Nat.le_trans (Nat.le_max_left _ _) (h i hi j hj)
  have a3:nsz q<=R*(C+1)+1:=Nat.le_trans (IC (by rw[hq];exact Nat.le_mul_of_pos_left _ (e i j).den_pos)) hn
  have a4:isz ((q:Nat):Int)<=R*(C+1)+1:=by unfold isz;simpa using a3
  omega
set_option maxRecDepth 100000
set_option maxHeartbeats 1000000
set_option linter.unusedVariables false
set_option linter.unusedSimpArgs false
theorem a3M {f:Nat->Rat} {K:Nat}:∀ n,(∀ i,i<n->rsz (f i)<=K)->rsz (sm n f)<=n*(K+1)+1
 | 0,_=>by show rsz 0<=_;rw[show rsz 0=1 by decide +kernel];omega
 | n+1,h=>by
  have h1:=a3M n (fun i hi=>h i (by omega))
  have h2:=h n (by omega)
  have h3:=a5m (sm n f) (f n)
  show rsz (sm n f+f n)<=_
  rw[Nat.succ_mul];omega
def EF (x y:LQ') (k:Nat):Rat:=sm k fun i=>lv x i*lv y i
def a0D (x y:LQ'):Prop:=x.length=y.length/\x.length<=64/\∀ i,i<x.length->rsz (lv x i)<=1000000/\rsz (lv y i)<=1000000
theorem a7Q {x y:LQ'} (h:a0D x y) {k:Nat} (hk:k<=x.length):rsz (EF x y k)<=200000000:=by
 have h1:=a3M (K:=2000000) (f:=fun i=>lv x i*lv y i) k (fun i hi=>by
  have ⟨a,b⟩:=h.2.2 i (by omega)
  have:=IW (lv x i) (lv y i);show rsz (lv x i*lv y i)<=_;omega)
 have h2:=h.2.1
 have:k*(2000000+1)<=64*2000001:=Nat.mul_le_mul (by omega) (by omega)
 show rsz (sm k _)<=_
 omega
theorem nN {x:Rat}:sgn x.num=0↔x=0:=⟨fun h=>Rat.num_eq_zero.mp (Int.sign_eq_zero_iff_zero.1 h),fun h=>by rw[h];rfl⟩
def b8A:Ctr:=⟨[.list tQ,.list tQ],[tQ],fun x=>a0D x.1 x.2.1,fun x=>(EF x.1 x.2.1 (show LQ' from x.1).length,())⟩
theorem a0C:aT Tryz.prog 112 b8A:=by
 refine kM ((((nil0.ad a5C).ad b3y).ad b0H).ad a2v) [4,5,7] Tryz.func112 rfl (by decide) (fun x=>[.inv {k:Nat // k<=(show LQ' from x.1).length} (fun k=>[(11,.val tI (k.1:Int))]) (fun k=>[(4,.box [⟨tR,cZ⟩]),(5,.box [⟨tQ,EF x.1 x.2.1 k.1⟩])]) (fun k=>(show LQ' from x.1).length-k.1) ⟨0,by omega⟩ (fun _=>[])]) (fun x hp=>?_)
 obtain⟨x,y,u⟩:=x
 change List Rat at x
 change List Rat at y
 refine bZ ((iO 0/\True)/\(asT Int 0=0/\asT aF { ok:=false,x:=0,g:=aC Nat,h:=aC Nat }=cZ/\bY 0=EF x y 0/\True)/\∀ (i:{ k:Nat // k<=List.length x }),let A₁:=(Int.toNat (aA (aB i)));let A₀:=(Rat.num (List.getD x A₁ 0));asT Bool true=true/\ifB (decide (aA (aB i)<aA (List.length x))) ((0<=aA (aB i)/\aA (aB i)<aA (List.length x)/\True)/\(rsz (List.getD x A₁ 0)<=1000000000/\(((sgn A₀ != 0)==true)=true->((sgn A₀ != 0)==true)=true/\((sgn A₀ != 0)==true)=true/\0<=aA (aB i)/\aA (aB i)<aA (List.length y)/\True)/\(((sgn A₀ != 0)==true)=true->((sgn A₀ != 0)==true)=true/\True)/\(((sgn A₀ != 0)==true)=true->((sgn A₀ != 0)==true)=true/\rsz (List.getD y A₁ 0)<=1000000000/\True)/\(((sgn A₀ != 0)==true)=true->((sgn A₀ != 0)==true)=true/\True)/\((sgn A₀ != 0)=true->((sgn A₀ != 0)==true)=true)/\True)/\ifB (bif sgn A₀ != 0 then sgn (Rat.num (List.getD y A₁ 0)) != 0 else false) ((0<=aA (aB i)/\aA (aB i)<aA (List.length y)/\s44 (List.getD x A₁ 0) (List.getD y A₁ 0)/\s44 (EF x y (aB i)) (List.getD x A₁ 0*List.getD y A₁ 0)/\True)/\∃ (i':{ k:Nat // k<=List.length x }),List.length x-aB i'<List.length x-aB i/\IntKind.wrap IntKind.i64 (aA (aB i)+1)=aA (aB i')/\asT aF cZ=cZ/\EF x y (aB i)+List.getD x A₁ 0*List.getD y A₁ 0=EF x y (aB i')/\True) (∃ (i':{ k:Nat // k<=List.length x }),List.length x-aB i'<List.length x-aB i/\IntKind.wrap IntKind.i64 (aA (aB i)+1)=aA (aB i')/\asT aF cZ=cZ/\EF x y (aB i)=EF x y (aB i')/\True)) (True/\EF x y (aB i)=EF x y (List.length x)/\True)) (by kernel_rfl) ?_
 have hp:a0D x y:=hp
 have hZ:(⟨false,0,[],[]⟩:aF)=cZ:=rfl
 dsimp only[aA,asT,aB,aC] at *
 simp only[hZ,Int.toNat_natCast,bG,decide_eq_true_eq,decide_eq_false_iff_not,true_and,and_true]
 have hs:=fun k (hk:k<=x.length)=>a7Q hp hk
 obtain⟨hl,h64,hr⟩:=hp
 refine⟨by unfold iO;omega,rfl,fun i=>⟨fun h1=>?_,fun h1=>?_⟩⟩
 ·have hi:i.1<x.length:=by omega
  have a1:rsz (x.getD i.1 0)<=1000000:=(hr i.1 hi).1
  have a2:rsz (y.getD i.1 0)<=1000000:=(hr i.1 hi).2
  have a3:=hs i.1 i.2
  have a4:=IW (x.getD i.1 0) (y.getD i.1 0)
  refine⟨⟨by omega,h1⟩,⟨by omega,fun h=>⟨h,h,by omega,by omega⟩,fun h=>h,fun h=>⟨h,by omega⟩,fun h=>h,fun h=>by rw[h];rfl⟩,fun h=>⟨⟨by omega,by omega,⟨by omega,by omega⟩,by omega,by omega⟩,⟨i.1+1,by omega⟩,by simp only;omega,by rw[bH (by omega) (by omega)];rfl,rfl⟩,fun h=>⟨⟨i.1+1,by omega⟩,by simp only;omega,by rw[bH (by omega) (by omega)];rfl,?_⟩⟩
  have hz:x.getD i.1 0*y.getD i.1 0=0:=by
   by_cases hx:sgn (x.getD i.1 0).num=0
   ·have h9:x.getD i.1 0=0:=nN.mp hx
    rw[h9];grind
   ·rw[show (sgn (x.getD i.1 0).num != 0)=true from bne_iff_ne.mpr hx] at h
    have h:(sgn (y.getD i.1 0).num != 0)=false:=h
    have h9:y.getD i.1 0=0:=nN.mp (by simpa using h)
    rw[h9];grind
  show sm i.1 _=sm i.1 _+x.getD i.1 0*y.getD i.1 0
  rw[hz];grind
 ·have:i.1=x.length:=by have:=i.2;omega
  rw[this]
abbrev TCo:List Ty:=[.ref tM]
def b1Z (c:(nest TCo).den) (i j:Int):Prop:=0<=i/\i.toNat<(show MQ from c.1).length/\0<=j/\j.toNat<((show MQ from c.1).getD i.toNat []).length
def gCo (c:(nest TCo).den) (i j:Nat):Rat:=ent c.1 i j
theorem VG:aT Tryz.prog 167 (XY TCo b1Z gCo):=by
 refine kM nil0 [5] Tryz.func167 rfl (by decide) (fun x=>[]) (fun x hp=>?_)
 obtain⟨i,j,c⟩:=x
 change Int at i
 change Int at j
 obtain⟨a,u⟩:=c
 change List (List Rat) at a
 refine bZ ((0<=i/\i<aA (List.length a)/\0<=j/\j<aA (List.length (List.getD a (Int.toNat i) (aC Rat)))/\True)/\True/\List.getD (List.getD a (Int.toNat i) (aC Rat)) (Int.toNat j) 0=ent a (Int.toNat i) (Int.toNat j)/\True) (by kernel_rfl) ?_
 try dsimp only[aA,asT,aB,aC] at *
 have h1:0<=i/\i.toNat<a.length/\0<=j/\j.toNat<(a.getD i.toNat []).length:=hp
 exact⟨⟨h1.1,by omega,h1.2.2.1,by omega,trivial⟩,trivial,rfl,trivial⟩
abbrev TTu:List Ty:=[.ref tM]
def b2e (c:(nest TTu).den) (i j:Int):Prop:=0<=i/\0<=j/\j.toNat<(show MQ from c.1).length/\i.toNat<((show MQ from c.1).getD j.toNat []).length
def gTu (c:(nest TTu).den) (i j:Nat):Rat:=ent c.1 j i
theorem VK:aT Tryz.prog 140 (XY TTu b2e gTu):=by
 refine kM nil0 [5] Tryz.func140 rfl (by decide) (fun x=>[]) (fun x hp=>?_)
 obtain⟨i,j,c⟩:=x
 change Int at i
 change Int at j
 obtain⟨a,u⟩:=c
 change List (List Rat) at a
 refine bZ ((0<=j/\j<aA (List.length a)/\0<=i/\i<aA (List.length (List.getD a (Int.toNat j) (aC Rat)))/\True)/\True/\List.getD (List.getD a (Int.toNat j) (aC Rat)) (Int.toNat i) 0=ent a (Int.toNat j) (Int.toNat i)/\True) (by kernel_rfl) ?_
 try dsimp only[aA,asT,aB,aC] at *
 have h1:0<=i/\0<=j/\j.toNat<a.length/\i.toNat<(a.getD j.toNat []).length:=hp
 exact⟨⟨h1.2.1,by omega,h1.1,by omega,trivial⟩,trivial,rfl,trivial⟩
abbrev TMu:List Ty:=[.ref tM,.ref tM]
def b2b (c:(nest TMu).den) (i j:Int):Prop:=0<=i/\i.toNat<(show MQ from c.1).length/\0<=j/\j.toNat<(show MQ from c.2.1).length/\a0D ((show MQ from c.1).getD i.toNat []) ((show MQ from c.2.1).getD j.toNat [])
def gMu (c:(nest TMu).den) (i j:Nat):Rat:=EF ((show MQ from c.1).getD i []) ((show MQ from c.2.1).getD j []) ((show MQ from c.1).getD i []).length
theorem VI:aT Tryz.prog 111 (XY TMu b2b gMu):=by
 refine kM (nil0.ad a0C) [6] Tryz.func111 rfl (by decide) (fun x=>[]) (fun x hp=>?_)
 obtain⟨i,j,c⟩:=x
 change Int at i
 change Int at j
 obtain⟨a,b,u⟩:=c
 change List (List Rat) at a
 change List (List Rat) at b
 refine bZ ((0<=i/\i<aA (List.length a)/\0<=j/\j<aA (List.length b)/\a0D (List.getD a (Int.toNat i) (aC Rat)) (List.getD b (Int.toNat j) (aC Rat))/\True)/\True/\EF (List.getD a (Int.toNat i) (aC Rat)) (List.getD b (Int.toNat j) (aC Rat)) (List.length (List.getD a (Int.toNat i) (aC Rat)))=gMu (a,b,u) (Int.toNat i) (Int.toNat j)/\True) (by kernel_rfl) ?_
 try dsimp only[aA,asT,aB,aC] at *
 have h1:0<=i/\i.toNat<a.length/\0<=j/\j.toNat<b.length/\a0D (a.getD i.toNat []) (b.getD j.toNat []):=hp
 exact⟨⟨h1.1,by omega,h1.2.2.1,by omega,h1.2.2.2.2,trivial⟩,trivial,rfl,trivial⟩
theorem jJ:NOk Tryz.prog 110 (GZ 167 TCo b1Z gCo):=by
 refine pW (nil0.ad VG) ⟨[],[],[(11,tR)]⟩ Tryz.func110 rfl (by decide) (fun x=>rO x.1 x.2.1 (gCo x.2.2.1)) (fun x hp=>?_)
 obtain⟨m,n,c,u⟩:=x
 obtain⟨R,C,hR,hC,r2,c2,hP⟩:=hp
 change m=(R:Int) at hR
 change n=(C:Int) at hC
 subst hR hC
 refine bZ (tK R C (gCo c) (b1Z c) (fun y=>aS R C (gCo c)=y)) (by kernel_rfl) ?_
 exact lZ r2 c2 hP rfl
theorem jL:NOk Tryz.prog 110 (GZ 140 TTu b2e gTu):=by
 refine pW (nil0.ad VK) ⟨[],[],[(11,tR)]⟩ Tryz.func110 rfl (by decide) (fun x=>rO x.1 x.2.1 (gTu x.2.2.1)) (fun x hp=>?_)
 obtain⟨m,n,c,u⟩:=x
 obtain⟨R,C,hR,hC,r2,c2,hP⟩:=hp
 change m=(R:Int) at hR
 change n=(C:Int) at hC
 subst hR hC
 refine bZ (tK R C (gTu c) (b2e c) (fun y=>aS R C (gTu c)=y)) (by kernel_rfl) ?_
 exact lZ r2 c2 hP rfl
theorem jK:NOk Tryz.prog 110 (GZ 111 TMu b2b gMu):=by
 refine pW (nil0.ad VI) ⟨[],[],[(11,tR)]⟩ Tryz.func110 rfl (by decide) (fun x=>rO x.1 x.2.1 (gMu x.2.2.1)) (fun x hp=>?_)
 obtain⟨m,n,c,u⟩:=x
 obtain⟨R,C,hR,hC,r2,c2,hP⟩:=hp
 change m=(R:Int) at hR
 change n=(C:Int) at hC
 subst hR hC
 refine bZ (tK R C (gMu c) (b2b c) (fun y=>aS R C (gMu c)=y)) (by kernel_rfl) ?_
 exact lZ r2 c2 hP rfl
theorem XR (x:List Rat):dO (fun(x:Ty.den (Ty.lf Lf.rat))=>aV []) x:=jS.mpr fun _ _=>trivial
theorem rM (a:MQ):dO (fun(x:Ty.den (Ty.list (Ty.lf Lf.rat)))=>aV [dO (fun(x:Ty.den (Ty.lf Lf.rat))=>aV []) x]) a:=jS.mpr fun r _=>⟨XR r,trivial⟩
theorem ifF {b:Bool} {p q:Prop} (h:b=false) (hq:q):ifB b p q:=by subst h;exact hq
theorem ifT {b:Bool} {p q:Prop} (h:b=true) (hp:p):ifB b p q:=by subst h;exact hp
theorem ES {x:Int} (h:x=0):(x != 0)=false:=by rw[h];rfl
theorem a4l {l:ML} (h:∀ a ∈ l,fP a=0):fA l=0:=by
 unfold fA
 rw[show l.any (fun a=>fP a != 0)=false from List.any_eq_false.mpr fun a ha=>by rw[h a ha];decide];rfl
theorem okM.pos {a:MQ} (h:okM a):0<a.length:=by have:=h.1.2.2.1;omega
theorem okM.poz {a:MQ} (h:okM a):(0:Int)<(a.length:Int):=by have:=h.pos;omega
theorem okM.r64 {a:MQ} (h:okM a):a.length<=64:=h.1.2.2.2.1
theorem okM.c1 {a:MQ} (h:okM a):1<=wdM a:=h.1.2.2.2.2.1
theorem okM.c64 {a:MQ} (h:okM a):wdM a<=64:=h.1.2.2.2.2.2
theorem okM.row {a:MQ} (h:okM a) {i:Nat} (hi:i<a.length):(a.getD i []).length=wdM a:=h.1.row hi
def b1R:yT:=.mk LKm [tM] (fun x=>okM x.1) (fun x=>aS (show MQ from x.1).length (wdM (show MQ from x.1)) (ent x.1))
theorem a7M:NOk Tryz.prog 137 b1R:=by
 refine pW ((((nil0.ad VG).an jJ).an jL).an jK) ⟨[],[],[]⟩ Tryz.func137 rfl (by decide) (fun x=>[]) (fun x hp=>?_)
 obtain⟨a,u⟩:=x
 change List (List Rat) at a
 refine bZ ((asT Int 0<=0/\0<aA (List.length a)/\zX TCo b1Z (aA (List.length a),aA (List.length (List.getD a 0 (aC Rat))),(a,()),())/\True)/\aS (List.length a) (wdM a) (ent a)=aS (Int.toNat (aA (List.length a))) (Int.toNat (aA (List.length (List.getD a 0 (aC Rat))))) (gCo (a,()))) (by kernel_rfl) ?_
 have ha:okM a:=hp
 exact⟨⟨Int.le_refl 0,ha.poz,⟨a.length,wdM a,rfl,rfl,by have:=ha.r64;omega,by have:=ha.c64;omega,fun i j hi hj=>⟨Int.natCast_nonneg i,hi,Int.natCast_nonneg j,by show j<(a.getD i []).length;rw[ha.row hi];exact hj⟩⟩,trivial⟩,rfl⟩
def b0V:Ctr:=⟨[tM],[tM],fun x=>okM x.1,fun x=>(tab (wdM (show MQ from x.1)) (show MQ from x.1).length (tr (ent x.1)),())⟩
theorem TQ:aT Tryz.prog 94 b0V:=by
 refine bT ((((nil0.ad VK).an jJ).an jL).an jK) ⟨[],[],[]⟩ Tryz.func94 rfl (by decide) (fun x=>[]) (fun x hp=>?_)
 obtain⟨a,u⟩:=x
 change List (List Rat) at a
 refine bZ ((asT Int 0<=0/\0<aA (List.length a)/\zX TTu b2e (aA (List.length (List.getD a 0 (aC Rat))),aA (List.length a),(a,()),())/\True)/\(dO (fun(x:Ty.den (Ty.list (Ty.lf Lf.dD)))=>aV (dO (fun(x:Ty.den (Ty.lf Lf.dD))=>aV ((aF.ok x=true)::aC Prop)) x::aC Prop)) (aS (Int.toNat (aA (List.length (List.getD a 0 (aC Rat))))) (Int.toNat (aA (List.length a))) (gTu (a,())))/\True)/\List.map (fun(xs:Ty.den (Ty.list (Ty.lf Lf.dD)))=>List.map (fun(x:Ty.den (Ty.lf Lf.dD))=>aF.x x) xs) (aS (Int.toNat (aA (List.length (List.getD a 0 (aC Rat))))) (Int.toNat (aA (List.length a))) (gTu (a,())))=tab (wdM a) (List.length a) (tr (ent a))/\True) (by kernel_rfl) ?_
 have ha:okM a:=hp
 exact⟨⟨Int.le_refl 0,ha.poz,⟨wdM a,a.length,rfl,rfl,by have:=ha.c64;omega,by have:=ha.r64;omega,fun i j hi hj=>⟨Int.natCast_nonneg i,Int.natCast_nonneg j,hj,by show i<(a.getD j []).length;rw[ha.row hj];exact hi⟩⟩,trivial⟩,⟨rU _ _ _,trivial⟩,xY _ _ _,trivial⟩
def sqC (a:MQ):Int:=if a.length=wdM a then 0 else 4
def b0T:Ctr:=⟨[tM],[tI],fun x=>okM x.1,fun x=>(sqC x.1,())⟩
theorem a3N:aT Tryz.prog 116 b0T:=by
 refine bT (nil0.ad nH) ⟨[],[],[]⟩ Tryz.func116 rfl (by decide) (fun x=>[]) (fun x hp=>?_)
 obtain⟨a,u⟩:=x
 change List (List Rat) at a
 refine bZ (let A₀:=(List.map (fun(xs:Ty.den (Ty.list (Ty.lf Lf.rat)))=>List.map (fun(x:Ty.den (Ty.lf Lf.rat))=>dR x) xs) a);(dO (fun(x:Ty.den (Ty.list (Ty.lf Lf.rat)))=>aV (dO (fun(x:Ty.den (Ty.lf Lf.rat))=>aV (aC Prop)) x::aC Prop)) a/\iF A₀/\True)/\ifB (fP A₀ != 0) (True/\fP A₀=sqC a/\True) ((asT Int 0<=0/\0<aA (List.length a)/\True)/\ifB (aA (List.length a) != aA (List.length (List.getD a 0 (aC Rat)))) (True/\4=sqC a/\True) (True/\0=sqC a/\True))) (by kernel_rfl) ?_
 have ha:okM a:=hp
 dsimp only[aA,asT,aB,aC] at *
 refine⟨⟨rM a,ha.short,trivial⟩,ifF (ES ha.chk) ⟨⟨Int.le_refl 0,ha.poz,trivial⟩,?_⟩⟩
 by_cases h:a.length=wdM a
 ·exact ifF (by rw[a1i,beq_iff_eq.mpr h];rfl) ⟨trivial,(if_pos h).symm,trivial⟩
 ·exact ifT (by rw[a1i,beq_eq_false_iff_ne.mpr h];rfl) ⟨trivial,(if_neg h).symm,trivial⟩
def b0U:Ctr:=⟨[tM],[tM,tI],fun x=>okM x.1,fun x=>(tab (wdM (show MQ from x.1)) (show MQ from x.1).length (tr (ent x.1)),(0:Int),())⟩
theorem xZ:aT Tryz.prog 52 b0U:=by
 refine bT ((nil0.ad nH).ad TQ) ⟨[],[],[]⟩ Tryz.func52 rfl (by decide) (fun x=>[]) (fun x hp=>?_)
 obtain⟨a,u⟩:=x
 change List (List Rat) at a
 refine bZ (let A₀:=(List.map (fun(xs:Ty.den (Ty.list (Ty.lf Lf.rat)))=>List.map (fun(x:Ty.den (Ty.lf Lf.rat))=>dR x) xs) a);(dO (fun(x:Ty.den (Ty.list (Ty.lf Lf.rat)))=>aV (dO (fun(x:Ty.den (Ty.lf Lf.rat))=>aV (aC Prop)) x::aC Prop)) a/\iF A₀/\True)/\ifB (fP A₀ != 0) (True/\aC (List Rat)=tab (wdM a) (List.length a) (tr (ent a))/\True/\fP A₀=0/\True) ((okM a/\True)/\True/\tab (wdM a) (List.length a) (tr (ent a))=tab (wdM a) (List.length a) (tr (ent a))/\True/\asT Int 0=0/\True)) (by kernel_rfl) ?_
 have ha:okM a:=hp
 exact⟨⟨rM a,ha.short,trivial⟩,ifF (ES ha.chk) ⟨⟨ha,trivial⟩,trivial,rfl,trivial,rfl,trivial⟩⟩
def cMul:Ctr:=⟨[tM,tM],[tM,tI],fun x=>okM x.1/\okM x.2.1/\wdM (show MQ from x.1)=(show MQ from x.2.1).length/\szM x.1 1000000/\szM x.2.1 1000000,fun x=>(tab (show MQ from x.1).length (wdM (show MQ from x.2.1)) (mm (show MQ from x.2.1).length (ent x.1) (ent x.2.1)),(0:Int),())⟩
theorem OH:aT Tryz.prog 66 cMul:=by
 refine bT ((((((nil0.ad MP).ad VI).an jJ).an jL).an jK).ad TQ) ⟨[7],[],[]⟩ Tryz.func66 rfl (by decide) (fun x=>[]) (fun x hp=>?_)
 obtain⟨a,b,u⟩:=x
 change List (List Rat) at a
 change List (List Rat) at b
 refine bZ (let A₂:=(Ty.list (Ty.lf Lf.rat));let A₀:=(List.map (fun(xs:Ty.den (Ty.list A₂))=>List.map (fun(xs:Ty.den A₂)=>List.map (fun(x:Ty.den (Ty.lf Lf.rat))=>dR x) xs) xs) (a::b::aC (List (List Rat))));let bJ:=(mm (List.length b) (ent a) (ent b));let dU:=(List.length (List.getD b 0 (aC Rat)));let A₁:=(aS (Int.toNat (aA (List.length a))) (Int.toNat (aA dU)) (gMu (a,tab (wdM b) (List.length b) (tr (ent b)),())));(((dO (fun(x:Ty.den A₂)=>aV (dO (fun(x:Ty.den (Ty.lf Lf.rat))=>aV (aC Prop)) x::aC Prop)) a/\True)/\(dO (fun(x:Ty.den A₂)=>aV (dO (fun(x:Ty.den (Ty.lf Lf.rat))=>aV (aC Prop)) x::aC Prop)) b/\True)/\True)/\(List.length A₀<=1000000/\∀ (a_1:List (List aF)),a_1 ∈ List.map (fun(xs:Ty.den (Ty.list A₂))=>List.map (fun(xs:Ty.den A₂)=>List.map (fun(x:Ty.den (Ty.lf Lf.rat))=>dR x) xs) xs) (a::b::aC (List (List Rat)))->iF a_1)/\True)/\ifB (fA A₀ != 0) (True/\aC (List Rat)=tab (List.length a) (wdM b) bJ/\True/\fA A₀=0/\True) ((asT Int 0<=0/\0<aA (List.length a)/\True)/\ifB (aA (List.length (List.getD a 0 (aC Rat))) != aA (List.length b)) (True/\aC (List Rat)=tab (List.length a) (wdM b) bJ/\True/\asT Int 4=0/\True) ((okM b/\True)/\(asT Int 0<=0/\0<aA (List.length b)/\zX TMu b2b (aA (List.length a),aA dU,(a,tab (wdM b) (List.length b) (tr (ent b)),()),())/\True)/\(dO (fun(x:Ty.den (Ty.list (Ty.lf Lf.dD)))=>aV (dO (fun(x:Ty.den (Ty.lf Lf.dD))=>aV ((aF.ok x=true)::aC Prop)) x::aC Prop)) A₁/\True)/\List.map (fun(xs:Ty.den (Ty.list (Ty.lf Lf.dD)))=>List.map (fun(x:Ty.den (Ty.lf Lf.dD))=>aF.x x) xs) A₁=tab (List.length a) (wdM b) bJ/\True/\asT Int 0=0/\True))) (by kernel_rfl) ?_
 have hp:okM a/\okM b/\wdM a=b.length/\szM a 1000000/\szM b 1000000:=hp
 obtain⟨ha,hb,hw,sa,sb⟩:=hp
 have hk:fA [liftM a,liftM b]=0:=a4l fun m hm=>by
  rcases List.mem_cons.mp hm with rfl|hm
  ·exact ha.chk
  ·rw[List.mem_singleton.mp hm];exact hb.chk
 have hs:∀ m ∈ [liftM a,liftM b],iF m:=fun m hm=>by
  rcases List.mem_cons.mp hm with rfl|hm
  ·exact ha.short
  ·rw[List.mem_singleton.mp hm];exact hb.short
 have hrow:∀ j,j<wdM b->(tab (wdM b) b.length (tr (ent b))).getD j []=(List.range b.length).map (fun k=>ent b k j):=fun j hj=>iV hj
 have hd:∀ i,i<a.length->∀ j,j<wdM b->a0D (a.getD i []) ((tab (wdM b) b.length (tr (ent b))).getD j []):=fun i hi j hj=>by
  rw[hrow j hj]
  have hl:=ha.row hi
  refine⟨by rw[hl,hw];simp,by rw[hl];exact ha.c64,fun k hk=>?_⟩
  rw[hl] at hk
  refine⟨sa i hi k hk,?_⟩
  show rsz (((List.range b.length).map (fun k=>ent b k j)).getD k 0)<=_
  rw[gI (by omega)];exact sb k (by omega) j hj
 refine⟨⟨⟨⟨rM a,trivial⟩,⟨rM b,trivial⟩,trivial⟩,⟨by show 2<=1000000;omega,hs⟩,trivial⟩,ifF (ES hk) ⟨⟨Int.le_refl 0,ha.poz,trivial⟩,ifF (by dsimp only[aA];rw[a1i,beq_iff_eq.mpr hw];rfl) ⟨⟨hb,trivial⟩,⟨Int.le_refl 0,hb.poz,⟨a.length,wdM b,rfl,rfl,by have:=ha.r64;omega,by have:=hb.c64;omega,fun i j hi hj=>⟨Int.natCast_nonneg i,hi,Int.natCast_nonneg j,by show j<(tab _ _ _).length;rw[bK];exact hj,hd i hi j hj⟩⟩,trivial⟩,⟨rU _ _ _,trivial⟩,(xY _ _ _).trans (gW fun i hi j hj=>?_),trivial,rfl,trivial⟩⟩⟩
 have hj:j<wdM b:=hj
 have hi:i<a.length:=hi
 show sm (a.getD i []).length (fun k=>lv (a.getD i []) k*lv ((tab (wdM b) b.length (tr (ent b))).getD j []) k)=sm b.length (fun k=>ent a i k*ent b k j)
 rw[ha.row hi,hw,hrow j hj]
 refine iJ _ fun k hk=>?_
 show ent a i k*((List.range b.length).map (fun k=>ent b k j)).getD k 0=_
 rw[gI hk]
def b8N:Ctr:=⟨[tQ,tQ],[tQ],fun x=>rsz x.1<=400000000/\rsz x.2.1<=400000000/\(show Rat from x.2.1)≠0,fun x=>((show Rat from x.1) / (show Rat from x.2.1),())⟩
theorem a9x:aT Tryz.prog 148 b8N:=by
 refine bT (nil0.ad b9W) ⟨[4,5],[],[]⟩ Tryz.func148 rfl (by decide) (fun x=>[]) (fun x hp=>?_)
 obtain⟨a,b,u⟩:=x
 change Rat at a
 change Rat at b
 refine bZ (((rsz a<=400000000/\rsz b<=400000000)/\True)/\(aF.ok (Prod.fst (b1f 14 a b))=true/\True)/\aF.x (Prod.fst (b1f 14 a b))=a / b/\True) (by kernel_rfl) ?_
 have hp:rsz a<=400000000/\rsz b<=400000000/\b≠0:=hp
 have e:b1f 14 a b=(dR (a / b),(0:Int),()):=if_neg hp.2.2
 rw[e]
 exact⟨⟨⟨hp.1,hp.2.1⟩,trivial⟩,⟨rfl,trivial⟩,rfl,trivial⟩
def oQ (x:LR) (o:LQ') (k:Rat) (s t:Nat):LR:=(List.range x.length).map fun c=>if s<=c/\c<t then dR ((x.getD c cZ).x-k*lv o c) else x.getD c cZ
theorem b0o (x:LR) (o:LQ') (k:Rat) (s t:Nat):(oQ x o k s t).length=x.length:=by simp[oQ]
theorem b2G {x:LR} {o:LQ'} {k:Rat} {s t c:Nat} (h:c<x.length):(oQ x o k s t).getD c cZ=if s<=c/\c<t then dR ((x.getD c cZ).x-k*lv o c) else x.getD c cZ:=gI h
theorem b4P (x:LR):(List.range x.length).map (fun c=>x.getD c cZ)=x:=by
 apply List.ext_getElem
 ·simp
 ·intro i h1 h2;simp[List.getD_eq_getElem?_getD,h2]
theorem a6U (x:LR) (o:LQ') (k:Rat) (s:Nat):oQ x o k s s=x:=by
 unfold oQ
 rw[show (fun c=>if s<=c/\c<s then dR ((x.getD c cZ).x-k*lv o c) else x.getD c cZ)=(fun c=>x.getD c cZ) from funext fun c=>if_neg (by omega)]
 exact b4P x
theorem b0q {x:LR} {o:LQ'} {k:Rat} {s t:Nat} (h:s<=t):(oQ x o k s t).set t (dR ((x.getD t cZ).x-k*lv o t))=oQ x o k s (t+1):=by
 unfold oQ;rw[map_set]
 refine List.map_congr_left fun c _=>?_
 by_cases e:c=t
 ·subst e;rw[if_pos rfl,if_pos ⟨h,by omega⟩]
 ·rw[if_neg e]
  by_cases h2:s<=c/\c<t
  ·rw[if_pos h2,if_pos ⟨h2.1,by omega⟩]
  ·rw[if_neg h2,if_neg (by omega)]
theorem a6T {x:LR} {o:LQ'} {k:Rat} {s t:Nat} (hx:∀ q ∈ x,q=dR q.x) (h:lv o t=0):oQ x o k s (t+1)=oQ x o k s t:=by
 unfold oQ
 refine List.map_congr_left fun c hc=>?_
 by_cases h2:s<=c/\c<t
 ·rw[if_pos h2,if_pos ⟨h2.1,by omega⟩]
 ·rw[if_neg h2]
  split
  ·have e:c=t:=by omega
   subst e
   have h3:x.getD c cZ=dR (x.getD c cZ).x:=fD hx (List.mem_range.mp hc)
   rw[h,show (x.getD c cZ).x-k*0=(x.getD c cZ).x by grind,<-h3]
  ·rfl
theorem b0n {x:LR} {o:LQ'} {k:Rat} {s t:Nat} (h:x.length<=t):oQ x o k s t=oQ x o k s x.length:=by
 unfold oQ
 refine List.map_congr_left fun c hc=>?_
 have:=List.mem_range.mp hc
 by_cases h2:s<=c
 ·rw[if_pos ⟨h2,by omega⟩,if_pos ⟨h2,by omega⟩]
 ·rw[if_neg (by omega),if_neg (by omega)]
def c1l:yT:=.chg (.row 64 tR) [.list tQ,tQ,tI] [] (fun x y=>(∀ q ∈ (show LR from x),q=dR q.x)/\(show LR from x).length=(show LQ' from y.1).length/\(show LR from x).length<=1000/\0<=(show Int from y.2.2.1)/\(∀ q ∈ (show LR from x),rsz q.x<=400000000)/\rsz y.2.1<=100000000/\∀ q ∈ (show LQ' from y.1),rsz q<=100000000) (fun x y=>oQ x y.1 y.2.1 (show Int from y.2.2.1).toNat (show LR from x).length) (fun _ _=>())
theorem b9V:NOk Tryz.prog 150 c1l:=by
 refine a4V (((nil0.ad b0H).ad b3z).ad a2v) ⟨[],[],[]⟩ Tryz.func150 rfl (by decide) (fun x y=>[.inv {k:Nat // (show Int from y.2.2.1).toNat<=k} (fun k=>[(8,.val tI (k.1:Int))]) (fun k=>[(0,.row 64 tR (oQ x y.1 y.2.1 (show Int from y.2.2.1).toNat k.1) 0)]) (fun k=>(show LR from x).length-k.1) ⟨(show Int from y.2.2.1).toNat,Nat.le_refl _⟩ (fun _=>[])]) (fun x y hp=>?_)
 obtain⟨o,k,s,u⟩:=y
 change List aF at x
 change List Rat at o
 change Rat at k
 change Int at s
 refine bZ ((s=aA (Int.toNat s)/\x=oQ x o k (Int.toNat s) (Int.toNat s)/\True)/\∀ (i:{ k:Nat // Int.toNat s<=k }),let A₀:=(oQ x o k (Int.toNat s) (aB i));let A₁:=(Int.toNat (aA (aB i)));let A₂:=(List.getD A₀ A₁ { ok:=false,x:=0,g:=aC Nat,h:=aC Nat });asT Bool true=true/\ifB (decide (aA (aB i)<aA (List.length A₀))) ((0<=aA (aB i)/\aA (aB i)<aA (List.length o)/\rsz (List.getD o A₁ 0)<=1000000000/\True)/\ifB (sgn (Rat.num (List.getD o A₁ 0)) != 0) ((0<=aA (aB i)/\aA (aB i)<aA (List.length A₀)/\Int.toNat (aA (aB i))<List.length A₀/\0<=aA (aB i)/\aA (aB i)<aA (List.length o)/\s44 k (List.getD o A₁ 0)/\aF.ok A₂=true/\s44 (aF.x A₂) (k*List.getD o A₁ 0)/\0<=aA (aB i)/\aA (aB i)<aA (List.length A₀)/\Int.toNat (aA (aB i))<List.length A₀/\True)/\∃ (i':{ k:Nat // Int.toNat s<=k }),List.length x-aB i'<List.length x-aB i/\IntKind.wrap IntKind.i64 (aA (aB i)+1)=aA (aB i')/\List.set A₀ A₁ (dR (aF.x A₂-k*List.getD o A₁ 0))=oQ x o k (Int.toNat s) (aB i')/\True) (∃ (i':{ k:Nat // Int.toNat s<=k }),List.length x-aB i'<List.length x-aB i/\IntKind.wrap IntKind.i64 (aA (aB i)+1)=aA (aB i')/\oQ x o k (Int.toNat s) (aB i)=oQ x o k (Int.toNat s) (aB i')/\True)) (oQ x o k (Int.toNat s) (List.length x)=oQ x o k (Int.toNat s) (aB i))) (by kernel_rfl) ?_
 have hp:(∀ q ∈ x,q=dR q.x)/\x.length=o.length/\x.length<=1000/\0<=s/\(∀ q ∈ x,rsz q.x<=400000000)/\rsz k<=100000000/\∀ q ∈ o,rsz q<=100000000:=hp
 obtain⟨hq,hl,hm,hs,zx,zk,zo⟩:=hp
 have hZ:(⟨false,0,[],[]⟩:aF)=cZ:=rfl
 dsimp only[aA,asT,aB,aC] at *
 simp only[hZ,Int.toNat_natCast,bG,decide_eq_true_eq,decide_eq_false_iff_not,true_and,and_true,b0o]
 refine⟨⟨by omega,(a6U _ _ _ _).symm⟩,fun i=>⟨fun h1=>?_,fun h1=>?_⟩⟩
 ·have hi:i.1<x.length:=by omega
  have z1:rsz (o.getD i.1 0)<=100000000:=fD zo (by omega)
  have z2:rsz (x.getD i.1 cZ).x<=400000000:=fD (p:=fun q:aF=>rsz q.x<=400000000) zx hi
  have z3:=IW k (o.getD i.1 0)
  have e1:(oQ x o k s.toNat i.1).getD i.1 cZ=x.getD i.1 cZ:=by rw[b2G hi,if_neg (by omega)]
  have e2:x.getD i.1 cZ=dR (x.getD i.1 cZ).x:=fD hq hi
  rw[e1]
  refine⟨⟨by omega,by omega,by omega⟩,fun h2=>⟨⟨by omega,by omega,hi,by omega,by omega,⟨by omega,by omega⟩,by rw[e2];rfl,⟨by omega,by omega⟩,by omega,by omega,hi⟩,⟨i.1+1,by have:=i.2;omega⟩,by simp only;omega,by rw[bH (by omega) (by omega)];rfl,b0q i.2⟩,fun h2=>⟨⟨i.1+1,by have:=i.2;omega⟩,by simp only;omega,by rw[bH (by omega) (by omega)];rfl,?_⟩⟩
  have h9:lv o i.1=0:=nN.mp (by simpa using h2)
  exact(a6T hq h9).symm
 ·exact(b0n (by omega)).symm
def scl (m:Mt) (r j c:Nat) (v:Rat):Mt:=fun i d=>if i=r/\j<=d/\d<c then v*m i d else m i d
def elm (m:Mt) (r j t:Nat):Mt:=fun i d=>if i≠r/\i<t/\j<=d then m i d-m i j*m r d else m i d
theorem a9X (m:Mt) (r j:Nat) (v:Rat):scl m r j j v=m:=by
 funext i d;unfold scl;rw[if_neg (by omega)]
theorem a9W (m:Mt) {r j c:Nat} (h:j<=c) (v:Rat):scl m r j (c+1) v=fun i d=>if i=r then (fun e=>if e=c then v*m r c else scl m r j c v r e) d else scl m r j c v i d:=by
 funext i d
 unfold scl
 by_cases h1:i=r
 ·subst h1;simp only[if_true,true_and]
  by_cases h2:d=c
  ·subst h2;rw[if_pos ⟨h,by omega⟩,if_pos rfl]
  ·rw[if_neg h2]
   by_cases h3:j<=d/\d<c
   ·rw[if_pos h3,if_pos ⟨h3.1,by omega⟩]
   ·rw[if_neg h3,if_neg (by omega)]
 ·simp only[if_neg h1];rw[if_neg (by simp[h1]),if_neg (by simp[h1])]
theorem b7P (m:Mt) {r j c:Nat} (v:Rat) {d:Nat} (h:c<=d) (i:Nat):scl m r j c v i d=m i d:=by unfold scl;rw[if_neg (by omega)]
theorem a7U (m:Mt) (r j:Nat):elm m r j 0=m:=by
 funext i d;unfold elm;rw[if_neg (by omega)]
theorem a0H (m:Mt) (r j t d:Nat):elm m r j t r d=m r d:=by unfold elm;rw[if_neg (by simp)]
theorem b3M (m:Mt) {r j t i:Nat} (h:t<=i) (d:Nat):elm m r j t i d=m i d:=by unfold elm;rw[if_neg (by omega)]
theorem a7T (m:Mt) {r j t:Nat} (h:t≠r):elm m r j (t+1)=fun i d=>if i=t then (fun e=>if j<=e then m t e-m t j*m r e else m t e) d else elm m r j t i d:=by
 funext i d
 unfold elm
 by_cases h1:i=t
 ·subst h1;simp only[if_true]
  by_cases h2:j<=d
  ·rw[if_pos ⟨h,by omega,h2⟩,if_pos h2]
  ·rw[if_neg (by omega),if_neg h2]
 ·simp only[if_neg h1]
  by_cases h2:i≠r/\i<t/\j<=d
  ·rw[if_pos h2,if_pos ⟨h2.1,by omega,h2.2.2⟩]
  ·rw[if_neg h2,if_neg (by omega)]
theorem a7S (m:Mt) {r j t:Nat} (h:t=r\/m t j=0):elm m r j (t+1)=elm m r j t:=by
 funext i d
 unfold elm
 by_cases h1:i=t
 ·subst h1
  rw[if_neg (c:=i≠r/\i<i/\j<=d) (by omega)]
  rcases h with h|h
  ·rw[if_neg (by simp[h])]
  ·split
   ·rw[h];grind
   ·rfl
 ·by_cases h2:i≠r/\i<t/\j<=d
  ·rw[if_pos h2,if_pos ⟨h2.1,by omega,h2.2.2⟩]
  ·rw[if_neg h2,if_neg (by omega)]
theorem b2F {m:Mt} {R C r k j:Nat} (hz:m k j≠0) (hr:r<=k) (hk:k<R) (h0:∀ i,r<=i->i<R->∀ d,d<j->m i d=0) :
  ∀ i,i<R->∀ d,d<C->elm (scl (iC m r k) r j C (1 / m k j)) r j R i d=jZ m r k j i d:=by
 intro i hi d hd
 have hs:∀ e,iC m r k r e=m k e:=fun e=>by unfold iC;rw[if_pos rfl]
 have hv:m k j*(m k j)⁻¹=1:=Rat.mul_inv_cancel _ hz
 have hrow:∀ e,e<C->scl (iC m r k) r j C (1 / m k j) r e=m k e / m k j:=fun e he=>by
  unfold scl
  by_cases h:j<=e
  ·rw[if_pos ⟨rfl,h,he⟩,hs,Rat.div_def,Rat.div_def];grind
  ·rw[if_neg (by omega),hs,h0 k hr hk e (by omega),Rat.div_def];grind
 by_cases e1:i=r
 ·subst e1
  rw[a0H,hrow d hd];unfold jZ;rw[if_pos rfl]
 ·have hoth:∀ e,scl (iC m r k) r j C (1 / m k j) i e=iC m r k i e:=fun e=>by unfold scl;rw[if_neg (by simp[e1])]
  unfold jZ;rw[if_neg e1]
  unfold elm
  by_cases h:j<=d
  ·rw[if_pos ⟨e1,hi,h⟩,hoth,hoth,hrow d hd]
  ·rw[if_neg (by omega),hoth,h0 k hr hk d (by omega),Rat.div_def];grind
theorem b0l {m:Mt} {R C r k j:Nat} :
  ∀ i,i<R->∀ d,d<C->(if i=r then iC m r k r d / m k j else iC m r k i d-iC m r k i j*(iC m r k r d / m k j))=jZ m r k j i d:=by
 intro i _ d _
 have hs:∀ e,iC m r k r e=m k e:=fun e=>by unfold iC;rw[if_pos rfl]
 unfold jZ
 rw[hs]
def DI (R C:Nat) (e:Mt) (n:Nat):Prop:=∀ t,t<=n->∀ i,i<R->∀ c,c<C->rsz ((red R e t).1 i c)<=10000000
theorem OJ {R C n K:Nat} {e:Mt} (H:Cd e R C K) (hn:n<=C) (hK:2 ^ n*(K+1)<=10000000):DI R C e n:=fun t ht i hi c hc=>by
 have h1:=(H.red t (by omega)).rsz hi hc
 have h2:2 ^ t*(K+1)<=2 ^ n*(K+1):=Nat.mul_le_mul (Nat.pow_le_pow_right (by omega) ht) (Nat.le_refl _)
 omega
theorem DI.at {R C n:Nat} {e:Mt} (h:DI R C e n) {i c:Nat} (hi:i<R) (hc:c<C):rsz (e i c)<=10000000:=h 0 (by omega) i hi c hc
theorem DI.mono {R C n m:Nat} {e:Mt} (h:DI R C e n) (hm:m<=n):DI R C e m:=fun t ht=>h t (by omega)
theorem a1K {R:Nat} {e:Mt} {n k:Nat} (hk:fk (red R e n).1 n (red R e n).2.length (R-(red R e n).2.length)=k) (hkR:k≠R):red R e (n+1)=(jZ (red R e n).1 (red R e n).2.length k n,(red R e n).2++[n]):=by
 subst hk;exact if_neg hkR
theorem a1J {R:Nat} {e:Mt} {n:Nat} (hk:fk (red R e n).1 n (red R e n).2.length (R-(red R e n).2.length)=R):red R e (n+1)=red R e n:=if_pos hk
def uJ (a:MQ) (n:Nat):Mt × List Nat:=red a.length (ent a) n
def rkM (a:MQ):Nat:=(uJ a (wdM a)).2.length
def mulM (a b:MQ):MQ:=tab a.length (wdM b) (mm b.length (ent a) (ent b))
def trM (a:MQ):MQ:=tab (wdM a) a.length (tr (ent a))
def NK (a b:MQ):MQ:=tab a.length (wdM a) (ma (ent a) (ent b))
def a2f (a b:MQ):MQ:=tab a.length (wdM a) (ms (ent a) (ent b))
def idM (n:Nat):MQ:=tab n n idm
def NQ (a:MQ):Mt × List Nat:=red a.length (jV a.length (ent a) idm) a.length
def yP (a:MQ):Bool:=decide ((NQ a).2.length=a.length)
def xA (a:MQ):MQ:=tab a.length a.length fun i j=>(NQ a).1 i (a.length+j)
def mvL (a:MQ) (x:List Rat):List Rat:=(List.range a.length).map (mv (wdM a) (ent a) (lv x))
instance c1s (N:Nat) (p:Nat->Prop) [DecidablePred p]:Decidable (∀ i,i<N->p i):=Nat.decidableBallLT N (fun i _=>p i)
def yQ (a:MQ):Bool:=decide (∀ i,i<a.length->∀ j,j<a.length->ent a i j=ent a j i)
def a2w (a:MQ):Bool:=decide (∀ i,i<a.length->∀ j,j<wdM a->ent a i j=0)
def wX (n g:MQ):Bool:=yQ n&&a2w (mulM n g)&&decide (rkM g=wdM g)&&decide (rkM g+rkM n=n.length)
def fK (a:MQ):MQ:=(frees (wdM a) (uJ a (wdM a)).2).map fun j=>(List.range (wdM a)).map (IG (uJ a (wdM a)).1 (uJ a (wdM a)).2 j)
def gJ (a:MQ) (x:List Rat):Mt × List Nat:=red a.length (jV (wdM a) (ent a) (fun i _=>lv x i)) (wdM a)
def a2d (a:MQ) (x:List Rat):Bool:=decide (∀ i,i<a.length->(gJ a x).2.length<=i->(gJ a x).1 i (wdM a)=0)
def a0e (a:MQ) (x:List Rat):List Rat:=(List.range (wdM a)).map (xs (gJ a x).1 (gJ a x).2 (wdM a))
def CdM (a:MQ) (K:Nat):Prop:=Cd (ent a) a.length (wdM a) K
theorem isM.len {a:MQ} {R C:Nat} (h:isM a R C):a.length=R:=h.1
theorem isM.self {a:MQ} {R C:Nat} (h:isM a R C):isM a a.length (wdM a):=by rw[h.len,h.wd];exact h
theorem TL {R C:Nat} {f:Nat->Nat->Rat} (h:1<=R):wdM (tab R C f)=C:=by
 show ((tab R C f).getD 0 []).length=C;rw[iV (by omega)];simp
theorem EW {R C K:Nat} {f:Mt} (h:1<=R) (H:Cd f R C K):CdM (tab R C f) K:=by
 unfold CdM;rw[bK,TL h];exact H.congr fun i hi j hj=>qH hi hj
theorem CdM.sz {a:MQ} {K L:Nat} (H:CdM a K) (h:K<=L):szM a L:=fun i hi j hj=>Nat.le_trans (Cd.rsz H hi hj) h
theorem CdM.ok {a:MQ} {R C K:Nat} (H:CdM a K) (h:isM a R C) (hK:K<=100000000):okM a:=⟨h.self,H.sz hK⟩
theorem isM.mul {a b:MQ} {R C D n:Nat} (h:isM a R C) (g:isM b n D):isM (mulM a b) R D:=by
 unfold mulM;rw[h.len,g.wd];exact rV h.2.2.1 h.2.2.2.1 g.2.2.2.2.1 g.2.2.2.2.2
theorem isM.trp {a:MQ} {R C:Nat} (h:isM a R C):isM (trM a) C R:=by
 unfold trM;rw[h.len,h.wd];exact rV h.2.2.2.2.1 h.2.2.2.2.2 h.2.2.1 h.2.2.2.1
theorem isM.add {a b:MQ} {R C:Nat} (h:isM a R C):isM (NK a b) R C:=by
 unfold NK;rw[h.len,h.wd];exact rV h.2.2.1 h.2.2.2.1 h.2.2.2.2.1 h.2.2.2.2.2
theorem isM.sub {a b:MQ} {R C:Nat} (h:isM a R C):isM (a2f a b) R C:=by
 unfold a2f;rw[h.len,h.wd];exact rV h.2.2.1 h.2.2.2.1 h.2.2.2.2.1 h.2.2.2.2.2
theorem KQ {n:Nat} (h:1<=n) (h2:n<=64):isM (idM n) n n:=rV h h2 h h2
theorem isM.inv {a:MQ} {n C:Nat} (h:isM a n C):isM (xA a) n n:=by
 unfold xA;rw[h.len];exact rV h.2.2.1 h.2.2.2.1 h.2.2.1 h.2.2.2.1
theorem CdM.mul {a b:MQ} {R n C K L:Nat} (H:CdM a K) (G:CdM b L) (h:isM a R n) (g:isM b n C):CdM (mulM a b) (K+L+n):=by
 unfold mulM;rw[h.len,g.len,g.wd]
 refine EW h.2.2.1 (Cd.mm ?_ ?_)
 ·have:=H;unfold CdM at this;rwa [h.len,h.wd] at this
 ·have:=G;unfold CdM at this;rwa [g.len,g.wd] at this
theorem CdM.trp {a:MQ} {R C K:Nat} (H:CdM a K) (h:isM a R C):CdM (trM a) K:=by
 unfold trM;rw[h.len,h.wd]
 refine EW h.2.2.2.2.1 (Cd.tr ?_)
 have:=H;unfold CdM at this;rwa [h.len,h.wd] at this
theorem CdM.add {a b:MQ} {R C K L:Nat} (H:CdM a K) (G:CdM b L) (h:isM a R C) (g:isM b R C):CdM (NK a b) (K+L+1):=by
 unfold NK;rw[h.len,h.wd]
 refine EW h.2.2.1 (Cd.add ?_ ?_)
 ·have:=H;unfold CdM at this;rwa [h.len,h.wd] at this
 ·have:=G;unfold CdM at this;rwa [g.len,g.wd] at this
theorem CdM.sub {a b:MQ} {R C K L:Nat} (H:CdM a K) (G:CdM b L) (h:isM a R C) (g:isM b R C):CdM (a2f a b) (K+L+1):=by
 unfold a2f;rw[h.len,h.wd]
 refine EW h.2.2.1 (Cd.sub ?_ ?_)
 ·have:=H;unfold CdM at this;rwa [h.len,h.wd] at this
 ·have:=G;unfold CdM at this;rwa [g.len,g.wd] at this
theorem a2y {n:Nat} (h:1<=n):CdM (idM n) 1:=EW h (Cd.idm n n)
theorem CdM.NQ {a:MQ} {n K:Nat} (H:CdM a K) (h:isM a n n):Cd (jV n (ent a) idm) n (n+n) (K+1):=by
 have:=H;unfold CdM at this;rw[h.len,h.wd] at this
 exact Cd.bes this (Cd.idm n n)
theorem CdM.inv {a:MQ} {n K:Nat} (H:CdM a K) (h:isM a n n):CdM (xA a) (2 ^ n*(K+2)-1):=by
 unfold xA Proofs.YtgplhbhfdgempaaGreat.NQ;rw[h.len]
 refine EW h.2.2.1 ?_
 have H2:=Cd.red (H.NQ h) n (by omega)
 obtain⟨D,d1,d2,d3⟩:=H2
 exact⟨D,d1,d2,fun i hi j hj=>d3 i hi (n+j) (by omega)⟩
theorem a7g {a:MQ} {R C:Nat} (h:isM a R C) (h1:szM a 1):CdM a (R*(C+1)+2):=by
 unfold CdM;rw[h.len,h.wd]
 exact Cd.of fun i hi j hj=>h1 i (by rw[h.len];exact hi) j (by rw[h.wd];exact hj)
def okE (a:MQ):Prop:=okM a/\DI a.length (wdM a) (ent a) (wdM a)
theorem TK {R C:Nat} {f:Nat->Nat->Rat} {i j:Nat} (v:Rat) (hi:i<R):(tab R C f).set i (((tab R C f).getD i []).set j v)=tab R C (fun a b=>if a=i/\b=j then v else f a b):=by
 rw[iV hi,map_set]
 unfold tab;rw[map_set]
 refine List.map_congr_left fun k _=>?_
 by_cases e:k=i
 ·subst e;rw[if_pos rfl]
  refine List.map_congr_left fun d _=>?_
  show _=if k=k/\d=j then v else f k d
  by_cases e2:d=j
  ·rw[if_pos e2,if_pos ⟨rfl,e2⟩]
  ·rw[if_neg e2,if_neg (fun h=>e2 h.2)]
 ·rw[if_neg e]
  refine List.map_congr_left fun d _=>?_
  show _=if k=i/\d=j then v else f k d
  rw[if_neg (fun h=>e h.1)]
def vG (a:MQ):MQ:=tab a.length (wdM a) (uJ a (wdM a)).1
def fE (a:MQ):List Nat:=(uJ a (wdM a)).2
def bI (l:List Nat):List Int:=l.map fun p:Nat=>(p:Int)
theorem oI (l:List Nat):(bI l).length=l.length:=by simp[bI]
theorem OU (R r k:Nat):((List.range R).set r k).set k r=(List.range R).map (fun i=>if i=k then r else if i=r then k else i):=by
 have h:=map_set (fun i=>i) R r k
 rw[List.map_id'] at h
 rw[h,map_set]
theorem b0v {R C r k:Nat} {m:Mt} (hr:r<R) (hk:k<R):List.map (fun t=>(tab R C m).getD t []) (((List.range R).set r k).set k r)=tab R C (iC m r k):=by
 rw[OU,List.map_map]
 unfold tab
 refine List.map_congr_left fun i hi=>?_
 have hi:=List.mem_range.mp hi
 show (tab R C m).getD (if i=k then r else if i=r then k else i) []=_
 have hb:(if i=k then r else if i=r then k else i)<R:=by
  split
  ·exact hr
  ·split
   ·exact hk
   ·exact hi
 rw[iV hb]
 refine List.map_congr_left fun c _=>?_
 unfold iC
 by_cases e1:i=k
 ·by_cases e2:i=r
  ·rw[if_pos e1,if_pos e2];have:r=k:=by omega
   rw[this]
  ·rw[if_pos e1,if_neg e2,if_pos e1]
 ·by_cases e2:i=r
  ·rw[if_neg e1,if_pos e2,if_pos e2]
  ·rw[if_neg e1,if_neg e2,if_neg e2,if_neg e1]
theorem b0w (R:Nat) {r k:Nat} (hr:r<R) (hk:k<R):(((List.range R).set r k).set k r).Nodup:=by
 rw[OU]
 refine List.nodup_iff_pairwise_ne.mpr (List.pairwise_iff_getElem.mpr fun i j hi hj h=>?_)
 simp only[List.getElem_map,List.getElem_range]
 split<;>split<;>(try split)<;>(try split)<;>omega
theorem swp_get {R r k:Nat} (hr:r<R):(((List.range R).set r k).set k r).getD r 0=k:=by
 rw[OU,gI hr]
 by_cases e:r=k
 ·rw[if_pos e];exact e
 ·rw[if_neg e,if_pos rfl]
theorem GN (l:List Nat) (j:Nat):(bI l).any (fun q=>q==(j:Int))=decide (j ∈ l):=by
 unfold bI
 rw[List.any_map]
 by_cases h:j ∈ l
 ·rw[decide_eq_true h];exact List.any_eq_true.mpr ⟨j,h,beq_self_eq_true _⟩
 ·rw[decide_eq_false h]
  refine List.any_eq_false.mpr fun q hq=>?_
  show ¬ ((q:Int)==(j:Int))=true
  intro e
  have:(q:Int)=j:=eq_of_beq e
  exact h (by rw[<-show q=j by omega];exact hq)
theorem a0T {p:List Nat} {j:Nat} (h:j ∈ p):frees (j+1) p=frees j p:=by unfold frees;rw[List.range_succ,List.filter_append];simp[h]
theorem VP {p:List Nat} {j:Nat} (h:j ∉ p):frees (j+1) p=frees j p++[j]:=by unfold frees;rw[List.range_succ,List.filter_append];simp[h]
theorem oL {p:List Nat} {t d:Nat} (ht:t<p.length):d ∈ p.take (t+1)↔d ∈ p.take t\/d=p[t]:=by
 rw[List.take_add_one,List.getElem?_eq_getElem ht,List.mem_append]
 simp only[Option.toList,List.mem_singleton]
end Go.Proofs.YtgplhbhfdgempaaGreat
