/-
  Lemmas for the statements about datums, part 24 of 37.
-/
import Derived.Test.YtgplhbhfdgempaaGreatDb23
namespace Go.Proofs.YtgplhbhfdgempaaGreat
open Go Go.RowKit
theorem Bh:type_of% @Tryz.func110:=@Tryz.func110
def Cd (e:Mt) (R C K:Nat):Prop:=∃ D:Nat,0<D/\nsz D<=K/\∀ i,i<R->∀ j,j<C->∃ z:Int,e i j*(D:Nat)=(z:Int)/\isz z<=K
theorem a1N {D:Nat} (h:0<D):((D:Nat):Rat)≠0:=fun h1=>by
 have:((D:Nat):Rat)=((0:Nat):Rat):=h1
 have:=Rat.natCast_inj.mp this;omega
theorem Cd.rsz {e:Mt} {R C K:Nat} (H:Cd e R C K) {i j:Nat} (h1:i<R) (h2:j<C):rsz (e i j)<=K:=by
 obtain⟨D,h0,hD,h⟩:=H
 obtain⟨z,hz,hs⟩:=h i h1 j h2
 have e1:e i j=Rat.divInt z D:=by
  rw[Rat.divInt_eq_div,<-hz,Rat.div_def]
  have:((D:Int):Rat)=((D:Nat):Rat):=Rat.intCast_natCast D
  rw[this,Rat.mul_assoc,Rat.mul_inv_cancel _ (a1N h0)];grind
 rw[e1]
 exact BG _ _ (by omega) hs (by unfold isz;simpa using hD)
theorem Cd.mono {e:Mt} {R C K L:Nat} (H:Cd e R C K) (h:K<=L):Cd e R C L:=by
 obtain⟨D,h0,hD,hh⟩:=H
 exact⟨D,h0,by omega,fun i h1 j h2=>by obtain⟨z,hz,hs⟩:=hh i h1 j h2;exact⟨z,hz,by omega⟩⟩
theorem Cd.congr {e f:Mt} {R C K:Nat} (H:Cd e R C K) (h:∀ i,i<R->∀ j,j<C->f i j=e i j):Cd f R C K:=by
 obtain⟨D,h0,hD,hh⟩:=H
 exact⟨D,h0,hD,fun i h1 j h2=>by rw[h i h1 j h2];exact hh i h1 j h2⟩
theorem Cd.tr {e:Mt} {R C K:Nat} (H:Cd e R C K):Cd (tr e) C R K:=by
 obtain⟨D,h0,hD,hh⟩:=H
 exact⟨D,h0,hD,fun i h1 j h2=>hh j h2 i h1⟩
theorem b6j {f:Nat->Rat} {D K:Nat}:∀ n,(∀ k,k<n->∃ z:Int,f k*(D:Nat)=(z:Int)/\isz z<=K)->∃ z:Int,sm n f*(D:Nat)=(z:Int)/\isz z<=K+n
 | 0,_=>⟨0,by show (0:Rat)*_=_;rw[Rat.zero_mul];rfl,by rw[EO];omega⟩
 | n+1,h=>by
  have ⟨z,h1,h2⟩:=b6j n (fun k hk=>h k (by omega))
  have ⟨y,h3,h4⟩:=h n (by omega)
  refine⟨z+y,?_,by have:=GZ z y;omega⟩
  show (sm n f+f n)*_=_
  rw[Rat.intCast_add,<-h1,<-h3];grind
theorem wJ (a b:Nat):((a*b:Nat):Rat)=(a:Rat)*(b:Rat):=Rat.natCast_mul a b
theorem Cd.mm {a b:Mt} {R n C K L:Nat} (H:Cd a R n K) (G:Cd b n C L):Cd (mm n a b) R C (K+L+n):=by
 obtain⟨D,h0,hD,hh⟩:=H
 obtain⟨E,g0,gD,gg⟩:=G
 refine⟨D*E,Nat.mul_pos h0 g0,by have:=xI D E;omega,fun i hi j hj=>b6j n fun k hk=>?_⟩
 obtain⟨z,h1,h2⟩:=hh i hi k hk
 obtain⟨y,h3,h4⟩:=gg k hk j hj
 exact⟨z*y,by rw[uj,<-h1,<-h3,wJ];grind,by have:=fF z y;omega⟩
theorem Cd.two {a b:Mt} {R C K L:Nat} (H:Cd a R C K) (G:Cd b R C L) (s:Int) (hs:s=1\/s=-1):Cd (fun i j=>a i j+s*b i j) R C (K+L+1):=by
 obtain⟨D,h0,hD,hh⟩:=H
 obtain⟨E,g0,gD,gg⟩:=G
 refine⟨D*E,Nat.mul_pos h0 g0,by have:=xI D E;omega,fun i hi j hj=>?_⟩
 obtain⟨z,h1,h2⟩:=hh i hi j hj
 obtain⟨y,h3,h4⟩:=gg i hi j hj
 refine⟨z*E+s*(y*D),?_,?_⟩
 ·rw[Rat.intCast_add,uj,uj,uj,<-h1,<-h3,wJ,Rat.intCast_natCast,Rat.intCast_natCast];grind
 ·have a1:=fF z E;have a2:=fF y D
  have a3:isz ((E:Nat):Int)<=L:=by unfold isz;simpa using gD
  have a4:isz ((D:Nat):Int)<=K:=by unfold isz;simpa using hD
  have a5:=GZ (z*E) (s*(y*D))
  have a6:isz (s*(y*D))=isz (y*D):=by
   rcases hs with h|h
   ·rw[h,Int.one_mul]
   ·rw[h,Int.neg_one_mul,oD]
  omega
theorem Cd.add {a b:Mt} {R C K L:Nat} (H:Cd a R C K) (G:Cd b R C L):Cd (ma a b) R C (K+L+1) :=
 (H.two G 1 (Or.inl rfl)).congr fun i _ j _=>by show a i j+b i j=a i j+((1:Int):Rat)*b i j;rw[show ((1:Int):Rat)=1 from rfl];grind
theorem Cd.sub {a b:Mt} {R C K L:Nat} (H:Cd a R C K) (G:Cd b R C L):Cd (ms a b) R C (K+L+1) :=
 (H.two G (-1) (Or.inr rfl)).congr fun i _ j _=>by show a i j-b i j=a i j+((-1:Int):Rat)*b i j;rw[show ((-1:Int):Rat)=-1 from rfl];grind
theorem Cd.idm (R C:Nat):Cd idm R C 1:=by
 refine⟨1,by omega,AB (x:=(1:Int)) (k:=1) (by unfold BB;decide),fun i _ j _=>⟨if i=j then 1 else 0,?_,?_⟩⟩
 ·show (if i=j then (1:Rat) else 0)*((1:Nat):Rat)=((if i=j then (1:Int) else 0:Int):Rat)
  rw[show ((1:Nat):Rat)=1 from rfl,Rat.mul_one]
  by_cases h:i=j
  ·rw[eY h,eY h];rfl
  ·rw[dw h,dw h];rfl
 ·split
  ·exact AB (by unfold BB;decide)
  ·rw[EO];omega
theorem Cd.bes {a b:Mt} {R n C K L:Nat} (H:Cd a R n K) (G:Cd b R C L):Cd (gV n a b) R (n+C) (K+L):=by
 obtain⟨D,h0,hD,hh⟩:=H
 obtain⟨E,g0,gD,gg⟩:=G
 have a3:isz ((E:Nat):Int)<=L:=by unfold isz;simpa using gD
 have a4:isz ((D:Nat):Int)<=K:=by unfold isz;simpa using hD
 refine⟨D*E,Nat.mul_pos h0 g0,by have:=xI D E;omega,fun i hi j hj=>?_⟩
 unfold gV
 by_cases h:j<n
 ·obtain⟨z,h1,h2⟩:=hh i hi j h
  refine⟨z*E,?_,by have:=fF z E;omega⟩
  rw[eY h,uj,<-h1,wJ,Rat.intCast_natCast];grind
 ·obtain⟨z,h1,h2⟩:=gg i hi (j-n) (by omega)
  refine⟨z*D,?_,by have:=fF z D;omega⟩
  rw[dw h,uj,<-h1,wJ,Rat.intCast_natCast];grind
theorem Cd.step {e:Mt} {R C K r k j:Nat} (H:Cd e R C K) (hr:r<R) (hk:k<R) (hj:j<C) (hz:e k j≠0):Cd (kZ e r k j) R C (2*K+1):=by
 obtain⟨D,h0,hD,hh⟩:=H
 obtain⟨p,p1,p2⟩:=hh k hk j hj
 have a4:isz ((D:Nat):Int)<=K:=by unfold isz;simpa using hD
 have hsw:∀ i,i<R->∀ c,c<C->∃ z:Int,iV e r k i c*(D:Nat)=(z:Int)/\isz z<=K:=fun i hi c hc=>by
  unfold iV;split
  ·exact hh k hk c hc
  ·split
   ·exact hh r hr c hc
   ·exact hh i hi c hc
 have hp:p≠0:=fun h=>by
  rw[h] at p1
  have h3:e k j*(D:Nat)=0:=p1
  have h2:=a1N h0
  have:e k j*(D:Nat)*((D:Nat):Rat)⁻¹=e k j:=by rw[Rat.mul_assoc,Rat.mul_inv_cancel _ h2];grind
  rw[h3] at this;exact hz (by rw[<-this];grind)
 have hpR:(p:Rat)≠0:=fun h=>hp (Rat.intCast_inj.mp h)
 have hpa:((p.natAbs:Nat):Rat)=(p.sign:Rat)*p:=by
  rw[<-Rat.intCast_natCast,<-uj,show p.sign*p=(p.natAbs:Int) by rw[Int.sign_mul_self]]
 have hs:isz p.sign<=1:=by
  refine AB ?_
  have:=Int.natAbs_sign_of_ne_zero hp;rw[this];unfold BB;decide
 have hsm:∀ y:Int,isz (p.sign*y)=isz y:=fun y=>by
  rcases uw p 0 with h|h|h
  ·rw[pz h,Int.neg_one_mul,oD]
  ·exact absurd h hp
  ·rw[qC h,Int.one_mul]
 refine⟨D*p.natAbs,Nat.mul_pos h0 (Int.natAbs_pos.mpr hp),by have:=xI D p.natAbs;unfold isz at p2;omega,fun i hi c hc=>?_⟩
 obtain⟨y,y1,y2⟩:=hh k hk c hc
 have hdv:e k c / e k j*p=y:=by
  rw[<-p1,<-y1,Rat.div_def]
  have:=Rat.mul_inv_cancel _ hz;grind
 unfold kZ
 by_cases h:i=r
 ·refine⟨p.sign*(y*D),?_,by rw[hsm];have:=fF y D;omega⟩
  rw[eY h,wJ,hpa,uj,uj,Rat.intCast_natCast,<-hdv];grind
 ·obtain⟨z,z1,z2⟩:=hsw i hi c hc
  obtain⟨x,x1,x2⟩:=hsw i hi j hj
  refine⟨p.sign*(z*p-x*y),?_,?_⟩
  ·rw[dw h,wJ,hpa,uj,Rat.intCast_sub,uj,uj,<-z1,<-x1,<-hdv];grind
  ·rw[hsm];have b1:=a1D (z*p) (x*y);have b2:=fF z p;have b3:=fF x y;omega
theorem Cd.red {e:Mt} {R C K:Nat} (H:Cd e R C K):∀ n,n<=C->Cd (red R e n).1 R C (2 ^ n*(K+1)-1)
 | 0,_=>H.mono (by omega)
 | n+1,hn=>by
  have ih:=Cd.red H n (by omega)
  have E:=iL R e n
  rw[a4a]
  have ⟨k1,k2⟩:=ZO (Proofs.YtgplhbhfdgempaaGreat.red R e n).1 n (R-(Proofs.YtgplhbhfdgempaaGreat.red R e n).2.length) (Proofs.YtgplhbhfdgempaaGreat.red R e n).2.length
  have k4:=a3b (Proofs.YtgplhbhfdgempaaGreat.red R e n).1 n (R-(Proofs.YtgplhbhfdgempaaGreat.red R e n).2.length) (Proofs.YtgplhbhfdgempaaGreat.red R e n).2.length
  have hle:=E.le
  split
  ·exact ih.mono (by have:=jh (K+1) (qj (show 0<2 by omega) (show n<=n+1 by omega));omega)
  ·rename_i h
   refine(ih.step (r:=(Proofs.YtgplhbhfdgempaaGreat.red R e n).2.length) (by omega) (by omega) (show n<C by omega) (k4 (by omega))).mono ?_
   have h1:0<2 ^ n*(K+1):=Nat.mul_pos (Nat.pow_pos (by omega)) (by omega)
   rw[Nat.pow_succ,qI (2 ^ n) 2,Nat.mul_assoc];omega
def pd:Nat->(Nat->Nat)->Nat
 | 0,_=>1
 | n+1,f=>pd n f*f n
theorem a5H {f:Nat->Nat}:∀ n,(∀ k,k<n->0<f k)->0<pd n f
 | 0,_=>Nat.one_pos
 | n+1,h=>Nat.mul_pos (a5H n (fun k hk=>h k (by omega))) (h n (by omega))
theorem a5F {f:Nat->Nat} {k:Nat}:∀ n,k<n->f k ∣ pd n f
 | 0,h=>by omega
 | n+1,h=>by
  show f k ∣ pd n f*f n
  by_cases e:k=n
  ·rw[e];exact Nat.dvd_mul_left _ _
  ·exact Nat.dvd_trans (a5F n (by omega)) (Nat.dvd_mul_right _ _)
theorem a5G {f:Nat->Nat} {K:Nat}:∀ n,(∀ k,k<n->nsz (f k)<=K)->nsz (pd n f)<=n*K+1
 | 0,_=>by
  have:isz ((1:Nat):Int)<=1:=AB (by unfold BB;decide)
  show nsz 1<=_;unfold isz at this;simp at this;omega
 | n+1,h=>by
  have h1:=a5G n (fun k hk=>h k (by omega))
  have h2:=h n (by omega)
  have h3:=xI (pd n f) (f n)
  show nsz (pd n f*f n)<=_;rw[vg];omega
theorem Cd.of {e:Mt} {R C:Nat} (h:∀ i,i<R->∀ j,j<C->Proofs.YtgplhbhfdgempaaGreat.rsz (e i j)<=1):Cd e R C (R*(C+1)+2):=by
 have hp:0<pd R (fun i=>pd C (fun j=>(e i j).den)):=a5H R fun i _=>a5H C fun j _=>(e i j).den_pos
 have hn:nsz (pd R (fun i=>pd C (fun j=>(e i j).den)))<=R*(C+1)+1:=a5G R fun i hi=>by
  have:=a5G (f:=fun j=>(e i j).den) (K:=1) C fun j hj=>jc (Nat.le_max_right _ _) (h i hi j hj)
  omega
 refine⟨_,hp,by omega,fun i hi j hj=>?_⟩
 have ⟨q,hq⟩:(e i j).den ∣ pd R (fun i=>pd C (fun j=>(e i j).den)):=Nat.dvd_trans (a5F (f:=fun j=>(e i j).den) C hj) (a5F (f:=fun i=>pd C (fun j=>(e i j).den)) R hi)
 refine⟨(e i j).num*q,?_,?_⟩
 ·rw[hq,wJ,uj,Rat.intCast_natCast]
  have h1:e i j*((e i j).den:Rat)=(e i j).num:=by
   have h2:=Rat.num_divInt_den (e i j)
   have h3:=Rat.inv_mul_cancel _ (a1N (e i j).den_pos)
   rw[Rat.divInt_eq_div,Rat.div_def,Rat.intCast_natCast] at h2
   generalize ((e i j).num:Rat)=x at *
   generalize ((e i j).den:Rat)=y at *
   rw[<-h2,Rat.mul_assoc,h3,Rat.mul_one]
  rw[<-h1];grind
 ·have a1:=fF (e i j).num q
  have a2:isz (e i j).num<=1:=jc (Nat.le_max_left _ _) (h i hi j hj)
  have a3:nsz q<=R*(C+1)+1:=jc (MZ (by rw[hq];exact Nat.le_mul_of_pos_left _ (e i j).den_pos)) hn
  have a4:isz ((q:Nat):Int)<=R*(C+1)+1:=by unfold isz;simpa using a3
  omega
set_option maxRecDepth 100000
set_option maxHeartbeats 1000000
set_option linter.unusedVariables false
set_option linter.unusedSimpArgs false
theorem BK {f:Nat->Rat} {K:Nat}:∀ n,(∀ i,i<n->rsz (f i)<=K)->rsz (sm n f)<=n*(K+1)+1
 | 0,_=>by show rsz 0<=_;rw[show rsz 0=1 by decide +kernel];omega
 | n+1,h=>by
  have h1:=BK n (fun i hi=>h i (by omega))
  have h2:=h n (by omega)
  have h3:=a7Z (sm n f) (f n)
  show rsz (sm n f+f n)<=_
  rw[vg];omega
def JR (x y:LQ') (k:Nat):Rat:=sm k fun i=>lv x i*lv y i
def a2S (x y:LQ'):Prop:=x.length=y.length/\x.length<=64/\∀ i,i<x.length->rsz (lv x i)<=1000000/\rsz (lv y i)<=1000000
theorem b0L {x y:LQ'} (h:a2S x y) {k:Nat} (hk:k<=x.length):rsz (JR x y k)<=200000000:=by
 have h1:=BK (K:=2000000) (f:=fun i=>lv x i*lv y i) k (fun i hi=>by
  have ⟨a,b⟩:=h.2.2 i (by omega)
  have:=oI (lv x i) (lv y i);show rsz (lv x i*lv y i)<=_;omega)
 have h2:=h.2.1
 have:k*(2000000+1)<=64*2000001:=oh (by omega) (by omega)
 show rsz (sm k _)<=_
 omega
theorem mQ {x:Rat}:sgn x.num=0↔x=0:=⟨fun h=>Rat.num_eq_zero.mp (Int.sign_eq_zero_iff_zero.1 h),fun h=>by rw[h];rfl⟩
def c2f:Ctr:=⟨[.list tQ,.list tQ],[tQ],fun x=>a2S x.1 x.2.1,fun x=>(JR x.1 x.2.1 (show LQ' from x.1).length,())⟩
theorem a2R:aY Tryz.prog 112 c2f:=by
 refine lX ((((nil0.ad a4I).ad b6K).ad b3O).ad a4J) [4,5,7] Tryz.func112 rfl (by decide) (fun x=>[.inv {k:Nat // k<=(show LQ' from x.1).length} (fun k=>[(11,.val tI (k.1:Int))]) (fun k=>[(4,.box [⟨tR,bV⟩]),(5,.box [⟨tQ,JR x.1 x.2.1 k.1⟩])]) (fun k=>(show LQ' from x.1).length-k.1) ⟨0,by omega⟩ (fun _=>[])]) (fun x hp=>?_)
 obtain⟨x,y,u⟩:=x
 change List Rat at x
 change List Rat at y
 refine bP ((gZ 0/\True)/\(asT Int 0=0/\asT aF { ok:=false,x:=0,g:=aC Nat,h:=aC Nat }=bV/\dD 0=JR x y 0/\True)/\∀ (i:{ k:Nat // k<=List.length x }),let A₁:=(aA (aB i)).toNat;let A₀:=(Rat.num (List.getD x A₁ 0));asT Bool true=true/\ifB (decide (aA (aB i)<aA x.length)) ((0<=aA (aB i)/\aA (aB i)<aA x.length/\True)/\(rsz (List.getD x A₁ 0)<=1000000000/\(((sgn A₀ != 0)==true)=true->((sgn A₀ != 0)==true)=true/\((sgn A₀ != 0)==true)=true/\0<=aA (aB i)/\aA (aB i)<aA y.length/\True)/\(((sgn A₀ != 0)==true)=true->((sgn A₀ != 0)==true)=true/\True)/\(((sgn A₀ != 0)==true)=true->((sgn A₀ != 0)==true)=true/\rsz (List.getD y A₁ 0)<=1000000000/\True)/\(((sgn A₀ != 0)==true)=true->((sgn A₀ != 0)==true)=true/\True)/\((sgn A₀ != 0)=true->((sgn A₀ != 0)==true)=true)/\True)/\ifB (bif sgn A₀ != 0 then sgn (Rat.num (List.getD y A₁ 0)) != 0 else false) ((0<=aA (aB i)/\aA (aB i)<aA y.length/\s44 (List.getD x A₁ 0) (List.getD y A₁ 0)/\s44 (JR x y (aB i)) (List.getD x A₁ 0*List.getD y A₁ 0)/\True)/\∃ (i':{ k:Nat // k<=List.length x }),List.length x-aB i'<List.length x-aB i/\IntKind.wrap IntKind.i64 (aA (aB i)+1)=aA (aB i')/\asT aF bV=bV/\JR x y (aB i)+List.getD x A₁ 0*List.getD y A₁ 0=JR x y (aB i')/\True) (∃ (i':{ k:Nat // k<=List.length x }),List.length x-aB i'<List.length x-aB i/\IntKind.wrap IntKind.i64 (aA (aB i)+1)=aA (aB i')/\asT aF bV=bV/\JR x y (aB i)=JR x y (aB i')/\True)) (True/\JR x y (aB i)=JR x y x.length/\True)) (by kernel_rfl) ?_
 have hp:a2S x y:=hp
 have hZ:(⟨false,0,[],[]⟩:aF)=bV:=rfl
 dsimp only[aA,asT,aB,aC] at *
 simp only[hZ,Int.toNat_natCast,aJ,dh,bn,mg,mW]
 have hs:=fun k (hk:k<=x.length)=>b0L hp hk
 obtain⟨hl,h64,hr⟩:=hp
 refine⟨by unfold gZ;omega,rfl,fun i=>⟨fun h1=>?_,fun h1=>?_⟩⟩
 ·have hi:i.1<x.length:=by omega
  have a1:rsz (x.getD i.1 0)<=1000000:=(hr i.1 hi).1
  have a2:rsz (y.getD i.1 0)<=1000000:=(hr i.1 hi).2
  have a3:=hs i.1 i.2
  have a4:=oI (x.getD i.1 0) (y.getD i.1 0)
  refine⟨⟨by omega,h1⟩,⟨by omega,fun h=>⟨h,h,by omega,by omega⟩,fun h=>h,fun h=>⟨h,by omega⟩,fun h=>h,fun h=>by rw[h];rfl⟩,fun h=>⟨⟨by omega,by omega,⟨by omega,by omega⟩,by omega,by omega⟩,⟨i.1+1,by omega⟩,by simp only;omega,by rw[bF (by omega) (by omega)];rfl,rfl⟩,fun h=>⟨⟨i.1+1,by omega⟩,by simp only;omega,by rw[bF (by omega) (by omega)];rfl,?_⟩⟩
  have hz:x.getD i.1 0*y.getD i.1 0=0:=by
   by_cases hx:sgn (x.getD i.1 0).num=0
   ·have h9:x.getD i.1 0=0:=mQ.mp hx
    rw[h9];grind
   ·rw[show (sgn (x.getD i.1 0).num != 0)=true from uy.mpr hx] at h
    have h:(sgn (y.getD i.1 0).num != 0)=false:=h
    have h9:y.getD i.1 0=0:=mQ.mp (by simpa using h)
    rw[h9];grind
  show sm i.1 _=sm i.1 _+x.getD i.1 0*y.getD i.1 0
  rw[hz];grind
 ·have:i.1=x.length:=by have:=i.2;omega
  rw[this]
abbrev TCo:List Ty:=[.ref tM]
def b5h (c:(nest TCo).den) (i j:Int):Prop:=0<=i/\i.toNat<(show MQ from c.1).length/\0<=j/\j.toNat<((show MQ from c.1).getD i.toNat []).length
def gCo (c:(nest TCo).den) (i j:Nat):Rat:=ent c.1 i j
theorem ZG:aY Tryz.prog 167 (a0Y TCo b5h gCo):=by
 refine lX nil0 [5] Tryz.func167 rfl (by decide) (fun x=>[]) (fun x hp=>?_)
 obtain⟨i,j,c⟩:=x
 change Int at i
 change Int at j
 obtain⟨a,u⟩:=c
 change List (List Rat) at a
 refine bP ((0<=i/\i<aA a.length/\0<=j/\j<aA (List.getD a i.toNat (aC Rat)).length/\True)/\True/\List.getD (List.getD a i.toNat (aC Rat)) j.toNat 0=ent a i.toNat j.toNat/\True) (by kernel_rfl) ?_
 try dsimp only[aA,asT,aB,aC] at *
 have h1:0<=i/\i.toNat<a.length/\0<=j/\j.toNat<(a.getD i.toNat []).length:=hp
 exact⟨⟨h1.1,by omega,h1.2.2.1,by omega,trivial⟩,trivial,rfl,trivial⟩
abbrev TTu:List Ty:=[.ref tM]
def b5l (c:(nest TTu).den) (i j:Int):Prop:=0<=i/\0<=j/\j.toNat<(show MQ from c.1).length/\i.toNat<((show MQ from c.1).getD j.toNat []).length
def gTu (c:(nest TTu).den) (i j:Nat):Rat:=ent c.1 j i
theorem ZK:aY Tryz.prog 140 (a0Y TTu b5l gTu):=by
 refine lX nil0 [5] Tryz.func140 rfl (by decide) (fun x=>[]) (fun x hp=>?_)
 obtain⟨i,j,c⟩:=x
 change Int at i
 change Int at j
 obtain⟨a,u⟩:=c
 change List (List Rat) at a
 refine bP ((0<=j/\j<aA a.length/\0<=i/\i<aA (List.getD a j.toNat (aC Rat)).length/\True)/\True/\List.getD (List.getD a j.toNat (aC Rat)) i.toNat 0=ent a j.toNat i.toNat/\True) (by kernel_rfl) ?_
 try dsimp only[aA,asT,aB,aC] at *
 have h1:0<=i/\0<=j/\j.toNat<a.length/\i.toNat<(a.getD j.toNat []).length:=hp
 exact⟨⟨h1.2.1,by omega,h1.1,by omega,trivial⟩,trivial,rfl,trivial⟩
abbrev TMu:List Ty:=[.ref tM,.ref tM]
def b5j (c:(nest TMu).den) (i j:Int):Prop:=0<=i/\i.toNat<(show MQ from c.1).length/\0<=j/\j.toNat<(show MQ from c.2.1).length/\a2S ((show MQ from c.1).getD i.toNat []) ((show MQ from c.2.1).getD j.toNat [])
def gMu (c:(nest TMu).den) (i j:Nat):Rat:=JR ((show MQ from c.1).getD i []) ((show MQ from c.2.1).getD j []) ((show MQ from c.1).getD i []).length
theorem ZI:aY Tryz.prog 111 (a0Y TMu b5j gMu):=by
 refine lX (nil0.ad a2R) [6] Tryz.func111 rfl (by decide) (fun x=>[]) (fun x hp=>?_)
 obtain⟨i,j,c⟩:=x
 change Int at i
 change Int at j
 obtain⟨a,b,u⟩:=c
 change List (List Rat) at a
 change List (List Rat) at b
 refine bP ((0<=i/\i<aA a.length/\0<=j/\j<aA b.length/\a2S (List.getD a i.toNat (aC Rat)) (List.getD b j.toNat (aC Rat))/\True)/\True/\JR (List.getD a i.toNat (aC Rat)) (List.getD b j.toNat (aC Rat)) (List.getD a i.toNat (aC Rat)).length=gMu (a,b,u) i.toNat j.toNat/\True) (by kernel_rfl) ?_
 try dsimp only[aA,asT,aB,aC] at *
 have h1:0<=i/\i.toNat<a.length/\0<=j/\j.toNat<b.length/\a2S (a.getD i.toNat []) (b.getD j.toNat []):=hp
 exact⟨⟨h1.1,by omega,h1.2.2.1,by omega,h1.2.2.2.2,trivial⟩,trivial,rfl,trivial⟩
theorem kF:NOk Tryz.prog 110 (MV 167 TCo b5h gCo):=by
 refine sK (nil0.ad ZG) ⟨[],[],[(11,tR)]⟩ Bh rfl (by decide) (fun x=>vF x.1 x.2.1 (gCo x.2.2.1)) (fun x hp=>?_)
 obtain⟨m,n,c,u⟩:=x
 obtain⟨R,C,hR,hC,r2,c2,hP⟩:=hp
 change m=(R:Int) at hR
 change n=(C:Int) at hC
 subst hR hC
 refine bP (wH R C (gCo c) (b5h c) (fun y=>bK R C (gCo c)=y)) (by kernel_rfl) ?_
 exact oH r2 c2 hP rfl
theorem kH:NOk Tryz.prog 110 (MV 140 TTu b5l gTu):=by
 refine sK (nil0.ad ZK) ⟨[],[],[(11,tR)]⟩ Bh rfl (by decide) (fun x=>vF x.1 x.2.1 (gTu x.2.2.1)) (fun x hp=>?_)
 obtain⟨m,n,c,u⟩:=x
 obtain⟨R,C,hR,hC,r2,c2,hP⟩:=hp
 change m=(R:Int) at hR
 change n=(C:Int) at hC
 subst hR hC
 refine bP (wH R C (gTu c) (b5l c) (fun y=>bK R C (gTu c)=y)) (by kernel_rfl) ?_
 exact oH r2 c2 hP rfl
theorem kG:NOk Tryz.prog 110 (MV 111 TMu b5j gMu):=by
 refine sK (nil0.ad ZI) ⟨[],[],[(11,tR)]⟩ Bh rfl (by decide) (fun x=>vF x.1 x.2.1 (gMu x.2.2.1)) (fun x hp=>?_)
 obtain⟨m,n,c,u⟩:=x
 obtain⟨R,C,hR,hC,r2,c2,hP⟩:=hp
 change m=(R:Int) at hR
 change n=(C:Int) at hC
 subst hR hC
 refine bP (wH R C (gMu c) (b5j c) (fun y=>bK R C (gMu c)=y)) (by kernel_rfl) ?_
 exact oH r2 c2 hP rfl
theorem a0P (x:List Rat):bY (fun(x:Ty.den (Ty.lf Lf.rat))=>aW []) x:=jJ.mpr fun _ _=>trivial
theorem uZ (a:MQ):bY (fun(x:Ty.den (Ty.list (Ty.lf Lf.rat)))=>aW [bY (fun(x:Ty.den (Ty.lf Lf.rat))=>aW []) x]) a:=jJ.mpr fun r _=>⟨a0P r,trivial⟩
theorem ifF {b:Bool} {p q:Prop} (h:b=false) (hq:q):ifB b p q:=by subst h;exact hq
theorem ifT {b:Bool} {p q:Prop} (h:b=true) (hp:p):ifB b p q:=by subst h;exact hp
theorem KJ {x:Int} (h:x=0):(x != 0)=false:=by rw[h];rfl
theorem a6K {l:ML} (h:∀ a ∈ l,bW a=0):gW l=0:=by
 unfold gW
 rw[show l.any (fun a=>bW a != 0)=false from vC.mpr fun a ha=>by rw[h a ha];decide];rfl
theorem okM.pos {a:MQ} (h:okM a):0<a.length:=by have:=h.1.2.2.1;omega
theorem okM.poz {a:MQ} (h:okM a):(0:Int)<(a.length:Int):=by have:=h.pos;omega
theorem okM.r64 {a:MQ} (h:okM a):a.length<=64:=h.1.2.2.2.1
theorem okM.c1 {a:MQ} (h:okM a):1<=wdM a:=h.1.2.2.2.2.1
theorem okM.c64 {a:MQ} (h:okM a):wdM a<=64:=h.1.2.2.2.2.2
theorem okM.row {a:MQ} (h:okM a) {i:Nat} (hi:i<a.length):(a.getD i []).length=wdM a:=h.1.row hi
def b4Y:DF:=.mk LKm [tM] (fun x=>okM x.1) (fun x=>bK (show MQ from x.1).length (wdM (show MQ from x.1)) (ent x.1))
theorem b0G:NOk Tryz.prog 137 b4Y:=by
 refine sK ((((nil0.ad ZG).an kF).an kH).an kG) ⟨[],[],[]⟩ Tryz.func137 rfl (by decide) (fun x=>[]) (fun x hp=>?_)
 obtain⟨a,u⟩:=x
 change List (List Rat) at a
 refine bP ((asT Int 0<=0/\0<aA a.length/\ET TCo b5h (aA a.length,aA (List.getD a 0 (aC Rat)).length,(a,()),())/\True)/\bK a.length (wdM a) (ent a)=bK (aA a.length).toNat (aA (List.getD a 0 (aC Rat)).length).toNat (gCo (a,()))) (by kernel_rfl) ?_
 have ha:okM a:=hp
 exact⟨⟨qh 0,ha.poz,⟨a.length,wdM a,rfl,rfl,by have:=ha.r64;omega,by have:=ha.c64;omega,fun i j hi hj=>⟨jv i,hi,jv j,by show j<(a.getD i []).length;rw[ha.row hi];exact hj⟩⟩,trivial⟩,rfl⟩
def b4b:Ctr:=⟨[tM],[tM],fun x=>okM x.1,fun x=>(tab (wdM (show MQ from x.1)) (show MQ from x.1).length (tr (ent x.1)),())⟩
theorem XU:aY Tryz.prog 94 b4b:=by
 refine bH ((((nil0.ad ZK).an kF).an kH).an kG) ⟨[],[],[]⟩ Tryz.func94 rfl (by decide) (fun x=>[]) (fun x hp=>?_)
 obtain⟨a,u⟩:=x
 change List (List Rat) at a
 refine bP ((asT Int 0<=0/\0<aA a.length/\ET TTu b5l (aA (List.getD a 0 (aC Rat)).length,aA a.length,(a,()),())/\True)/\(bY (fun(x:Ty.den (Ty.list (Ty.lf Lf.aU)))=>aW (bY (fun(x:Ty.den (Ty.lf Lf.aU))=>aW ((aF.ok x=true)::aC Prop)) x::aC Prop)) (bK (aA (List.getD a 0 (aC Rat)).length).toNat (aA a.length).toNat (gTu (a,())))/\True)/\List.map (fun(xs:Ty.den (Ty.list (Ty.lf Lf.aU)))=>List.map (fun(x:Ty.den (Ty.lf Lf.aU))=>aF.x x) xs) (bK (aA (List.getD a 0 (aC Rat)).length).toNat (aA a.length).toNat (gTu (a,())))=tab (wdM a) a.length (tr (ent a))/\True) (by kernel_rfl) ?_
 have ha:okM a:=hp
 exact⟨⟨qh 0,ha.poz,⟨wdM a,a.length,rfl,rfl,by have:=ha.c64;omega,by have:=ha.r64;omega,fun i j hi hj=>⟨jv i,jv j,hj,by show i<(a.getD j []).length;rw[ha.row hj];exact hi⟩⟩,trivial⟩,⟨vG _ _ _,trivial⟩,BM _ _ _,trivial⟩
def sqC (a:MQ):Int:=if a.length=wdM a then 0 else 4
def b3Z:Ctr:=⟨[tM],[tI],fun x=>okM x.1,fun x=>(sqC x.1,())⟩
theorem a6f:aY Tryz.prog 116 b3Z:=by
 refine bH (nil0.ad qB) ⟨[],[],[]⟩ Tryz.func116 rfl (by decide) (fun x=>[]) (fun x hp=>?_)
 obtain⟨a,u⟩:=x
 change List (List Rat) at a
 refine bP (let A₀:=(List.map (fun(xs:Ty.den (Ty.list (Ty.lf Lf.rat)))=>List.map (fun(x:Ty.den (Ty.lf Lf.rat))=>dS x) xs) a);(bY (fun(x:Ty.den (Ty.list (Ty.lf Lf.rat)))=>aW (bY (fun(x:Ty.den (Ty.lf Lf.rat))=>aW (aC Prop)) x::aC Prop)) a/\iM A₀/\True)/\ifB (bW A₀ != 0) (True/\bW A₀=sqC a/\True) ((asT Int 0<=0/\0<aA a.length/\True)/\ifB (aA a.length != aA (List.getD a 0 (aC Rat)).length) (True/\4=sqC a/\True) (True/\0=sqC a/\True))) (by kernel_rfl) ?_
 have ha:okM a:=hp
 dsimp only[aA,asT,aB,aC] at *
 refine⟨⟨uZ a,ha.short,trivial⟩,ifF (KJ ha.chk) ⟨⟨qh 0,ha.poz,trivial⟩,?_⟩⟩
 by_cases h:a.length=wdM a
 ·exact ifF (by rw[a3u,jd.mpr h];rfl) ⟨trivial,(eY h).symm,trivial⟩
 ·exact ifT (by rw[a3u,nS.mpr h];rfl) ⟨trivial,(dw h).symm,trivial⟩
def b4a:Ctr:=⟨[tM],[tM,tI],fun x=>okM x.1,fun x=>(tab (wdM (show MQ from x.1)) (show MQ from x.1).length (tr (ent x.1)),(0:Int),())⟩
theorem BO:aY Tryz.prog 52 b4a:=by
 refine bH ((nil0.ad qB).ad XU) ⟨[],[],[]⟩ Tryz.func52 rfl (by decide) (fun x=>[]) (fun x hp=>?_)
 obtain⟨a,u⟩:=x
 change List (List Rat) at a
 refine bP (let A₀:=(List.map (fun(xs:Ty.den (Ty.list (Ty.lf Lf.rat)))=>List.map (fun(x:Ty.den (Ty.lf Lf.rat))=>dS x) xs) a);(bY (fun(x:Ty.den (Ty.list (Ty.lf Lf.rat)))=>aW (bY (fun(x:Ty.den (Ty.lf Lf.rat))=>aW (aC Prop)) x::aC Prop)) a/\iM A₀/\True)/\ifB (bW A₀ != 0) (True/\aC (List Rat)=tab (wdM a) a.length (tr (ent a))/\True/\bW A₀=0/\True) ((okM a/\True)/\True/\tab (wdM a) a.length (tr (ent a))=tab (wdM a) a.length (tr (ent a))/\True/\asT Int 0=0/\True)) (by kernel_rfl) ?_
 have ha:okM a:=hp
 exact⟨⟨uZ a,ha.short,trivial⟩,ifF (KJ ha.chk) ⟨⟨ha,trivial⟩,trivial,rfl,trivial,rfl,trivial⟩⟩
def cMul:Ctr:=⟨[tM,tM],[tM,tI],fun x=>okM x.1/\okM x.2.1/\wdM (show MQ from x.1)=(show MQ from x.2.1).length/\szM x.1 1000000/\szM x.2.1 1000000,fun x=>(tab (show MQ from x.1).length (wdM (show MQ from x.2.1)) (mm (show MQ from x.2.1).length (ent x.1) (ent x.2.1)),(0:Int),())⟩
theorem TD:aY Tryz.prog 66 cMul:=by
 refine bH ((((((nil0.ad RD).ad ZI).an kF).an kH).an kG).ad XU) ⟨[7],[],[]⟩ Tryz.func66 rfl (by decide) (fun x=>[]) (fun x hp=>?_)
 obtain⟨a,b,u⟩:=x
 change List (List Rat) at a
 change List (List Rat) at b
 refine bP (let A₂:=(Ty.list (Ty.lf Lf.rat));let A₀:=(List.map (fun(xs:Ty.den (Ty.list A₂))=>List.map (fun(xs:Ty.den A₂)=>List.map (fun(x:Ty.den (Ty.lf Lf.rat))=>dS x) xs) xs) (a::b::aC (List (List Rat))));let aV:=(mm b.length (ent a) (ent b));let aP:=(List.getD b 0 (aC Rat)).length;let A₁:=(bK (aA a.length).toNat (aA aP).toNat (gMu (a,tab (wdM b) b.length (tr (ent b)),())));(((bY (fun(x:Ty.den A₂)=>aW (bY (fun(x:Ty.den (Ty.lf Lf.rat))=>aW (aC Prop)) x::aC Prop)) a/\True)/\(bY (fun(x:Ty.den A₂)=>aW (bY (fun(x:Ty.den (Ty.lf Lf.rat))=>aW (aC Prop)) x::aC Prop)) b/\True)/\True)/\(List.length A₀<=1000000/\∀ (a_1:List (List aF)),a_1 ∈ List.map (fun(xs:Ty.den (Ty.list A₂))=>List.map (fun(xs:Ty.den A₂)=>List.map (fun(x:Ty.den (Ty.lf Lf.rat))=>dS x) xs) xs) (a::b::aC (List (List Rat)))->iM a_1)/\True)/\ifB (gW A₀ != 0) (True/\aC (List Rat)=tab a.length (wdM b) aV/\True/\gW A₀=0/\True) ((asT Int 0<=0/\0<aA a.length/\True)/\ifB (aA (List.getD a 0 (aC Rat)).length != aA b.length) (True/\aC (List Rat)=tab a.length (wdM b) aV/\True/\asT Int 4=0/\True) ((okM b/\True)/\(asT Int 0<=0/\0<aA b.length/\ET TMu b5j (aA a.length,aA aP,(a,tab (wdM b) b.length (tr (ent b)),()),())/\True)/\(bY (fun(x:Ty.den (Ty.list (Ty.lf Lf.aU)))=>aW (bY (fun(x:Ty.den (Ty.lf Lf.aU))=>aW ((aF.ok x=true)::aC Prop)) x::aC Prop)) A₁/\True)/\List.map (fun(xs:Ty.den (Ty.list (Ty.lf Lf.aU)))=>List.map (fun(x:Ty.den (Ty.lf Lf.aU))=>aF.x x) xs) A₁=tab a.length (wdM b) aV/\True/\asT Int 0=0/\True))) (by kernel_rfl) ?_
 have hp:okM a/\okM b/\wdM a=b.length/\szM a 1000000/\szM b 1000000:=hp
 obtain⟨ha,hb,hw,sa,sb⟩:=hp
 have hk:gW [liftM a,liftM b]=0:=a6K fun m hm=>by
  rcases oq.mp hm with rfl|hm
  ·exact ha.chk
  ·rw[lN.mp hm];exact hb.chk
 have hs:∀ m ∈ [liftM a,liftM b],iM m:=fun m hm=>by
  rcases oq.mp hm with rfl|hm
  ·exact ha.short
  ·rw[lN.mp hm];exact hb.short
 have hrow:∀ j,j<wdM b->(tab (wdM b) b.length (tr (ent b))).getD j []=(List.range b.length).map (fun k=>ent b k j):=fun j hj=>jI hj
 have hd:∀ i,i<a.length->∀ j,j<wdM b->a2S (a.getD i []) ((tab (wdM b) b.length (tr (ent b))).getD j []):=fun i hi j hj=>by
  rw[hrow j hj]
  have hl:=ha.row hi
  refine⟨by rw[hl,hw];simp,by rw[hl];exact ha.c64,fun k hk=>?_⟩
  rw[hl] at hk
  refine⟨sa i hi k hk,?_⟩
  show rsz (((List.range b.length).map (fun k=>ent b k j)).getD k 0)<=_
  rw[gG (by omega)];exact sb k (by omega) j hj
 refine⟨⟨⟨⟨uZ a,trivial⟩,⟨uZ b,trivial⟩,trivial⟩,⟨by show 2<=1000000;omega,hs⟩,trivial⟩,ifF (KJ hk) ⟨⟨qh 0,ha.poz,trivial⟩,ifF (by dsimp only[aA];rw[a3u,jd.mpr hw];rfl) ⟨⟨hb,trivial⟩,⟨qh 0,hb.poz,⟨a.length,wdM b,rfl,rfl,by have:=ha.r64;omega,by have:=hb.c64;omega,fun i j hi hj=>⟨jv i,hi,jv j,by show j<(tab _ _ _).length;rw[aZ];exact hj,hd i hi j hj⟩⟩,trivial⟩,⟨vG _ _ _,trivial⟩,(BM _ _ _).trans (fE fun i hi j hj=>?_),trivial,rfl,trivial⟩⟩⟩
 have hj:j<wdM b:=hj
 have hi:i<a.length:=hi
 show sm (a.getD i []).length (fun k=>lv (a.getD i []) k*lv ((tab (wdM b) b.length (tr (ent b))).getD j []) k)=sm b.length (fun k=>ent a i k*ent b k j)
 rw[ha.row hi,hw,hrow j hj]
 refine fG _ fun k hk=>?_
 show ent a i k*((List.range b.length).map (fun k=>ent b k j)).getD k 0=_
 rw[gG hk]
def c2u:Ctr:=⟨[tQ,tQ],[tQ],fun x=>rsz x.1<=400000000/\rsz x.2.1<=400000000/\(show Rat from x.2.1)≠0,fun x=>((show Rat from x.1) / (show Rat from x.2.1),())⟩
theorem b2C:aY Tryz.prog 148 c2u:=by
 refine bH (nil0.ad c3T) ⟨[4,5],[],[]⟩ Tryz.func148 rfl (by decide) (fun x=>[]) (fun x hp=>?_)
 obtain⟨a,b,u⟩:=x
 change Rat at a
 change Rat at b
 refine bP (((rsz a<=400000000/\rsz b<=400000000)/\True)/\(aF.ok (b4p 14 a b).1=true/\True)/\aF.x (b4p 14 a b).1=a / b/\True) (by kernel_rfl) ?_
 have hp:rsz a<=400000000/\rsz b<=400000000/\b≠0:=hp
 have e:b4p 14 a b=(dS (a / b),(0:Int),()):=dw hp.2.2
 rw[e]
 exact⟨⟨⟨hp.1,hp.2.1⟩,trivial⟩,⟨rfl,trivial⟩,rfl,trivial⟩
def rP (x:LR) (o:LQ') (k:Rat) (s t:Nat):LR:=(List.range x.length).map fun c=>if s<=c/\c<t then dS ((x.getD c bV).x-k*lv o c) else x.getD c bV
theorem b3o (x:LR) (o:LQ') (k:Rat) (s t:Nat):(rP x o k s t).length=x.length:=by simp[rP]
theorem b5M {x:LR} {o:LQ'} {k:Rat} {s t c:Nat} (h:c<x.length):(rP x o k s t).getD c bV=if s<=c/\c<t then dS ((x.getD c bV).x-k*lv o c) else x.getD c bV:=gG h
theorem b8j (x:LR):(List.range x.length).map (fun c=>x.getD c bV)=x:=by
 apply yw
 ·simp
 ·intro i h1 h2;simp[ay,h2]
theorem a9L (x:LR) (o:LQ') (k:Rat) (s:Nat):rP x o k s s=x:=by
 unfold rP
 rw[show (fun c=>if s<=c/\c<s then dS ((x.getD c bV).x-k*lv o c) else x.getD c bV)=(fun c=>x.getD c bV) from Ah fun c=>dw (by omega)]
 exact b8j x
theorem b3q {x:LR} {o:LQ'} {k:Rat} {s t:Nat} (h:s<=t):(rP x o k s t).set t (dS ((x.getD t bV).x-k*lv o t))=rP x o k s (t+1):=by
 unfold rP;rw[map_set]
 refine jf fun c _=>?_
 by_cases e:c=t
 ·subst e;rw[eY rfl,eY ⟨h,by omega⟩]
 ·rw[dw e]
  by_cases h2:s<=c/\c<t
  ·rw[eY h2,eY ⟨h2.1,by omega⟩]
  ·rw[dw h2,dw (by omega)]
theorem a9K {x:LR} {o:LQ'} {k:Rat} {s t:Nat} (hx:∀ q ∈ x,q=dS q.x) (h:lv o t=0):rP x o k s (t+1)=rP x o k s t:=by
 unfold rP
 refine jf fun c hc=>?_
 by_cases h2:s<=c/\c<t
 ·rw[eY h2,eY ⟨h2.1,by omega⟩]
 ·rw[dw h2]
  split
  ·have e:c=t:=by omega
   subst e
   have h3:x.getD c bV=dS (x.getD c bV).x:=fA hx (qN.mp hc)
   rw[h,show (x.getD c bV).x-k*0=(x.getD c bV).x by grind,<-h3]
  ·rfl
theorem b3n {x:LR} {o:LQ'} {k:Rat} {s t:Nat} (h:x.length<=t):rP x o k s t=rP x o k s x.length:=by
 unfold rP
 refine jf fun c hc=>?_
 have:=qN.mp hc
 by_cases h2:s<=c
 ·rw[eY ⟨h2,by omega⟩,eY ⟨h2,by omega⟩]
 ·rw[dw (by omega),dw (by omega)]
def c5q:DF:=.chg (.row 64 tR) [.list tQ,tQ,tI] [] (fun x y=>(∀ q ∈ (show LR from x),q=dS q.x)/\(show LR from x).length=(show LQ' from y.1).length/\(show LR from x).length<=1000/\0<=(show Int from y.2.2.1)/\(∀ q ∈ (show LR from x),rsz q.x<=400000000)/\rsz y.2.1<=100000000/\∀ q ∈ (show LQ' from y.1),rsz q<=100000000) (fun x y=>rP x y.1 y.2.1 (show Int from y.2.2.1).toNat (show LR from x).length) (fun _ _=>())
theorem c3R:NOk Tryz.prog 150 c5q:=by
 refine a7E (((nil0.ad b3O).ad b6L).ad a4J) ⟨[],[],[]⟩ Tryz.func150 rfl (by decide) (fun x y=>[.inv {k:Nat // (show Int from y.2.2.1).toNat<=k} (fun k=>[(8,.val tI (k.1:Int))]) (fun k=>[(0,.row 64 tR (rP x y.1 y.2.1 (show Int from y.2.2.1).toNat k.1) 0)]) (fun k=>(show LR from x).length-k.1) ⟨(show Int from y.2.2.1).toNat,aj _⟩ (fun _=>[])]) (fun x y hp=>?_)
 obtain⟨o,k,s,u⟩:=y
 change List aF at x
 change List Rat at o
 change Rat at k
 change Int at s
 refine bP ((s=aA s.toNat/\x=rP x o k s.toNat s.toNat/\True)/\∀ (i:{ k:Nat // Int.toNat s<=k }),let A₀:=(rP x o k s.toNat (aB i));let A₁:=(aA (aB i)).toNat;let A₂:=(List.getD A₀ A₁ { ok:=false,x:=0,g:=aC Nat,h:=aC Nat });asT Bool true=true/\ifB (decide (aA (aB i)<aA A₀.length)) ((0<=aA (aB i)/\aA (aB i)<aA o.length/\rsz (List.getD o A₁ 0)<=1000000000/\True)/\ifB (sgn (Rat.num (List.getD o A₁ 0)) != 0) ((0<=aA (aB i)/\aA (aB i)<aA A₀.length/\Int.toNat (aA (aB i))<List.length A₀/\0<=aA (aB i)/\aA (aB i)<aA o.length/\s44 k (List.getD o A₁ 0)/\aF.ok A₂=true/\s44 (aF.x A₂) (k*List.getD o A₁ 0)/\0<=aA (aB i)/\aA (aB i)<aA A₀.length/\Int.toNat (aA (aB i))<List.length A₀/\True)/\∃ (i':{ k:Nat // Int.toNat s<=k }),List.length x-aB i'<List.length x-aB i/\IntKind.wrap IntKind.i64 (aA (aB i)+1)=aA (aB i')/\List.set A₀ A₁ (dS (aF.x A₂-k*List.getD o A₁ 0))=rP x o k s.toNat (aB i')/\True) (∃ (i':{ k:Nat // Int.toNat s<=k }),List.length x-aB i'<List.length x-aB i/\IntKind.wrap IntKind.i64 (aA (aB i)+1)=aA (aB i')/\rP x o k s.toNat (aB i)=rP x o k s.toNat (aB i')/\True)) (rP x o k s.toNat x.length=rP x o k s.toNat (aB i))) (by kernel_rfl) ?_
 have hp:(∀ q ∈ x,q=dS q.x)/\x.length=o.length/\x.length<=1000/\0<=s/\(∀ q ∈ x,rsz q.x<=400000000)/\rsz k<=100000000/\∀ q ∈ o,rsz q<=100000000:=hp
 obtain⟨hq,hl,hm,hs,zx,zk,zo⟩:=hp
 have hZ:(⟨false,0,[],[]⟩:aF)=bV:=rfl
 dsimp only[aA,asT,aB,aC] at *
 simp only[hZ,Int.toNat_natCast,aJ,dh,bn,mg,mW,b3o]
 refine⟨⟨by omega,(a9L _ _ _ _).symm⟩,fun i=>⟨fun h1=>?_,fun h1=>?_⟩⟩
 ·have hi:i.1<x.length:=by omega
  have z1:rsz (o.getD i.1 0)<=100000000:=fA zo (by omega)
  have z2:rsz (x.getD i.1 bV).x<=400000000:=fA (p:=fun q:aF=>rsz q.x<=400000000) zx hi
  have z3:=oI k (o.getD i.1 0)
  have e1:(rP x o k s.toNat i.1).getD i.1 bV=x.getD i.1 bV:=by rw[b5M hi,dw (by omega)]
  have e2:x.getD i.1 bV=dS (x.getD i.1 bV).x:=fA hq hi
  rw[e1]
  refine⟨⟨by omega,by omega,by omega⟩,fun h2=>⟨⟨by omega,by omega,hi,by omega,by omega,⟨by omega,by omega⟩,by rw[e2];rfl,⟨by omega,by omega⟩,by omega,by omega,hi⟩,⟨i.1+1,by have:=i.2;omega⟩,by simp only;omega,by rw[bF (by omega) (by omega)];rfl,b3q i.2⟩,fun h2=>⟨⟨i.1+1,by have:=i.2;omega⟩,by simp only;omega,by rw[bF (by omega) (by omega)];rfl,?_⟩⟩
  have h9:lv o i.1=0:=mQ.mp (by simpa using h2)
  exact(a9K hq h9).symm
 ·exact(b3n (by omega)).symm
def scl (m:Mt) (r j c:Nat) (v:Rat):Mt:=fun i d=>if i=r/\j<=d/\d<c then v*m i d else m i d
def elm (m:Mt) (r j t:Nat):Mt:=fun i d=>if i≠r/\i<t/\j<=d then m i d-m i j*m r d else m i d
theorem b2Y (m:Mt) (r j:Nat) (v:Rat):scl m r j j v=m:=by
 funext i d;unfold scl;rw[dw (by omega)]
theorem b2X (m:Mt) {r j c:Nat} (h:j<=c) (v:Rat):scl m r j (c+1) v=fun i d=>if i=r then (fun e=>if e=c then v*m r c else scl m r j c v r e) d else scl m r j c v i d:=by
 funext i d
 unfold scl
 by_cases h1:i=r
 ·subst h1;simp only[Ai,mg]
  by_cases h2:d=c
  ·subst h2;rw[eY ⟨h,by omega⟩,eY rfl]
  ·rw[dw h2]
   by_cases h3:j<=d/\d<c
   ·rw[eY h3,eY ⟨h3.1,by omega⟩]
   ·rw[dw h3,dw (by omega)]
 ·simp only[dw h1];rw[dw (by simp[h1]),dw (by simp[h1])]
theorem c1n (m:Mt) {r j c:Nat} (v:Rat) {d:Nat} (h:c<=d) (i:Nat):scl m r j c v i d=m i d:=by unfold scl;rw[dw (by omega)]
theorem b0S (m:Mt) (r j:Nat):elm m r j 0=m:=by
 funext i d;unfold elm;rw[dw (by omega)]
theorem a2U (m:Mt) (r j t d:Nat):elm m r j t r d=m r d:=by unfold elm;rw[dw (by simp)]
theorem b7e (m:Mt) {r j t i:Nat} (h:t<=i) (d:Nat):elm m r j t i d=m i d:=by unfold elm;rw[dw (by omega)]
theorem b0R (m:Mt) {r j t:Nat} (h:t≠r):elm m r j (t+1)=fun i d=>if i=t then (fun e=>if j<=e then m t e-m t j*m r e else m t e) d else elm m r j t i d:=by
 funext i d
 unfold elm
 by_cases h1:i=t
 ·subst h1;simp only[Ai]
  by_cases h2:j<=d
  ·rw[eY ⟨h,by omega,h2⟩,eY h2]
  ·rw[dw (by omega),dw h2]
 ·simp only[dw h1]
  by_cases h2:i≠r/\i<t/\j<=d
  ·rw[eY h2,eY ⟨h2.1,by omega,h2.2.2⟩]
  ·rw[dw h2,dw (by omega)]
theorem b0Q (m:Mt) {r j t:Nat} (h:t=r\/m t j=0):elm m r j (t+1)=elm m r j t:=by
 funext i d
 unfold elm
 by_cases h1:i=t
 ·subst h1
  rw[dw (c:=i≠r/\i<i/\j<=d) (by omega)]
  rcases h with h|h
  ·rw[dw (by simp[h])]
  ·split
   ·rw[h];grind
   ·rfl
 ·by_cases h2:i≠r/\i<t/\j<=d
  ·rw[eY h2,eY ⟨h2.1,by omega,h2.2.2⟩]
  ·rw[dw h2,dw (by omega)]
theorem b5L {m:Mt} {R C r k j:Nat} (hz:m k j≠0) (hr:r<=k) (hk:k<R) (h0:∀ i,r<=i->i<R->∀ d,d<j->m i d=0) :
  ∀ i,i<R->∀ d,d<C->elm (scl (iV m r k) r j C (1 / m k j)) r j R i d=kZ m r k j i d:=by
 intro i hi d hd
 have hs:∀ e,iV m r k r e=m k e:=fun e=>by unfold iV;rw[eY rfl]
 have hv:m k j*(m k j)⁻¹=1:=Rat.mul_inv_cancel _ hz
 have hrow:∀ e,e<C->scl (iV m r k) r j C (1 / m k j) r e=m k e / m k j:=fun e he=>by
  unfold scl
  by_cases h:j<=e
  ·rw[eY ⟨rfl,h,he⟩,hs,Rat.div_def,Rat.div_def];grind
  ·rw[dw (by omega),hs,h0 k hr hk e (by omega),Rat.div_def];grind
 by_cases e1:i=r
 ·subst e1
  rw[a2U,hrow d hd];unfold kZ;rw[eY rfl]
 ·have hoth:∀ e,scl (iV m r k) r j C (1 / m k j) i e=iV m r k i e:=fun e=>by unfold scl;rw[dw (by simp[e1])]
  unfold kZ;rw[dw e1]
  unfold elm
  by_cases h:j<=d
  ·rw[eY ⟨e1,hi,h⟩,hoth,hoth,hrow d hd]
  ·rw[dw (by omega),hoth,h0 k hr hk d (by omega),Rat.div_def];grind
theorem b3l {m:Mt} {R C r k j:Nat} :
  ∀ i,i<R->∀ d,d<C->(if i=r then iV m r k r d / m k j else iV m r k i d-iV m r k i j*(iV m r k r d / m k j))=kZ m r k j i d:=by
 intro i _ d _
 have hs:∀ e,iV m r k r e=m k e:=fun e=>by unfold iV;rw[eY rfl]
 unfold kZ
 rw[hs]
def AQ (R C:Nat) (e:Mt) (n:Nat):Prop:=∀ t,t<=n->∀ i,i<R->∀ c,c<C->rsz ((red R e t).1 i c)<=10000000
theorem ND {R C n K:Nat} {e:Mt} (H:Cd e R C K) (hn:n<=C) (hK:2 ^ n*(K+1)<=10000000):AQ R C e n:=fun t ht i hi c hc=>by
 have h1:=(H.red t (by omega)).rsz hi hc
 have h2:2 ^ t*(K+1)<=2 ^ n*(K+1):=oh (qj (by omega) ht) (aj _)
 omega
theorem AQ.at {R C n:Nat} {e:Mt} (h:AQ R C e n) {i c:Nat} (hi:i<R) (hc:c<C):rsz (e i c)<=10000000:=h 0 (by omega) i hi c hc
theorem AQ.mono {R C n m:Nat} {e:Mt} (h:AQ R C e n) (hm:m<=n):AQ R C e m:=fun t ht=>h t (by omega)
theorem NK {R:Nat} {e:Mt} {n k:Nat} (hk:fk (red R e n).1 n (red R e n).2.length (R-(red R e n).2.length)=k) (hkR:k≠R):red R e (n+1)=(kZ (red R e n).1 (red R e n).2.length k n,(red R e n).2++[n]):=by
 subst hk;exact dw hkR
theorem EZ {R:Nat} {e:Mt} {n:Nat} (hk:fk (red R e n).1 n (red R e n).2.length (R-(red R e n).2.length)=R):red R e (n+1)=red R e n:=eY hk
def EY (a:MQ) (n:Nat):Mt × List Nat:=red a.length (ent a) n
def rkM (a:MQ):Nat:=(EY a (wdM a)).2.length
def mulM (a b:MQ):MQ:=tab a.length (wdM b) (mm b.length (ent a) (ent b))
def trM (a:MQ):MQ:=tab (wdM a) a.length (tr (ent a))
def RY (a b:MQ):MQ:=tab a.length (wdM a) (ma (ent a) (ent b))
def YU (a b:MQ):MQ:=tab a.length (wdM a) (ms (ent a) (ent b))
def idM (n:Nat):MQ:=tab n n idm
def MI (a:MQ):Mt × List Nat:=red a.length (gV a.length (ent a) idm) a.length
def kR (a:MQ):Bool:=decide ((MI a).2.length=a.length)
def oN (a:MQ):MQ:=tab a.length a.length fun i j=>(MI a).1 i (a.length+j)
def mvL (a:MQ) (x:List Rat):List Rat:=(List.range a.length).map (mv (wdM a) (ent a) (lv x))
instance c5A (N:Nat) (p:Nat->Prop) [DecidablePred p]:Decidable (∀ i,i<N->p i):=Nat.decidableBallLT N (fun i _=>p i)
def mD (a:MQ):Bool:=decide (∀ i,i<a.length->∀ j,j<a.length->ent a i j=ent a j i)
def wS (a:MQ):Bool:=decide (∀ i,i<a.length->∀ j,j<wdM a->ent a i j=0)
def lY (n g:MQ):Bool:=mD n&&wS (mulM n g)&&decide (rkM g=wdM g)&&decide (rkM g+rkM n=n.length)
def pI (a:MQ):MQ:=(frees (wdM a) (EY a (wdM a)).2).map fun j=>(List.range (wdM a)).map (SC (EY a (wdM a)).1 (EY a (wdM a)).2 j)
def eF (a:MQ) (x:List Rat):Mt × List Nat:=red a.length (gV (wdM a) (ent a) (fun i _=>lv x i)) (wdM a)
def pO (a:MQ) (x:List Rat):Bool:=decide (∀ i,i<a.length->(eF a x).2.length<=i->(eF a x).1 i (wdM a)=0)
def uV (a:MQ) (x:List Rat):List Rat:=(List.range (wdM a)).map (xs (eF a x).1 (eF a x).2 (wdM a))
def CdM (a:MQ) (K:Nat):Prop:=Cd (ent a) a.length (wdM a) K
theorem isM.len {a:MQ} {R C:Nat} (h:isM a R C):a.length=R:=h.1
theorem isM.self {a:MQ} {R C:Nat} (h:isM a R C):isM a a.length (wdM a):=by rw[h.len,h.wd];exact h
theorem QE {R C:Nat} {f:Nat->Nat->Rat} (h:1<=R):wdM (tab R C f)=C:=by
 show ((tab R C f).getD 0 []).length=C;rw[jI (by omega)];simp
theorem KQ {R C K:Nat} {f:Mt} (h:1<=R) (H:Cd f R C K):CdM (tab R C f) K:=by
 unfold CdM;rw[aZ,QE h];exact H.congr fun i hi j hj=>kN hi hj
theorem CdM.sz {a:MQ} {K L:Nat} (H:CdM a K) (h:K<=L):szM a L:=fun i hi j hj=>jc (Cd.rsz H hi hj) h
theorem CdM.ok {a:MQ} {R C K:Nat} (H:CdM a K) (h:isM a R C) (hK:K<=100000000):okM a:=⟨h.self,H.sz hK⟩
theorem isM.mul {a b:MQ} {R C D n:Nat} (h:isM a R C) (g:isM b n D):isM (mulM a b) R D:=by
 unfold mulM;rw[h.len,g.wd];exact pV h.2.2.1 h.2.2.2.1 g.2.2.2.2.1 g.2.2.2.2.2
theorem isM.trp {a:MQ} {R C:Nat} (h:isM a R C):isM (trM a) C R:=by
 unfold trM;rw[h.len,h.wd];exact pV h.2.2.2.2.1 h.2.2.2.2.2 h.2.2.1 h.2.2.2.1
theorem isM.add {a b:MQ} {R C:Nat} (h:isM a R C):isM (RY a b) R C:=by
 unfold RY;rw[h.len,h.wd];exact pV h.2.2.1 h.2.2.2.1 h.2.2.2.2.1 h.2.2.2.2.2
theorem isM.sub {a b:MQ} {R C:Nat} (h:isM a R C):isM (YU a b) R C:=by
 unfold YU;rw[h.len,h.wd];exact pV h.2.2.1 h.2.2.2.1 h.2.2.2.2.1 h.2.2.2.2.2
theorem KE {n:Nat} (h:1<=n) (h2:n<=64):isM (idM n) n n:=pV h h2 h h2
theorem isM.inv {a:MQ} {n C:Nat} (h:isM a n C):isM (oN a) n n:=by
 unfold oN;rw[h.len];exact pV h.2.2.1 h.2.2.2.1 h.2.2.1 h.2.2.2.1
theorem CdM.mul {a b:MQ} {R n C K L:Nat} (H:CdM a K) (G:CdM b L) (h:isM a R n) (g:isM b n C):CdM (mulM a b) (K+L+n):=by
 unfold mulM;rw[h.len,g.len,g.wd]
 refine KQ h.2.2.1 (Cd.mm ?_ ?_)
 ·have:=H;unfold CdM at this;rwa [h.len,h.wd] at this
 ·have:=G;unfold CdM at this;rwa [g.len,g.wd] at this
theorem CdM.trp {a:MQ} {R C K:Nat} (H:CdM a K) (h:isM a R C):CdM (trM a) K:=by
 unfold trM;rw[h.len,h.wd]
 refine KQ h.2.2.2.2.1 (Cd.tr ?_)
 have:=H;unfold CdM at this;rwa [h.len,h.wd] at this
theorem CdM.add {a b:MQ} {R C K L:Nat} (H:CdM a K) (G:CdM b L) (h:isM a R C) (g:isM b R C):CdM (RY a b) (K+L+1):=by
 unfold RY;rw[h.len,h.wd]
 refine KQ h.2.2.1 (Cd.add ?_ ?_)
 ·have:=H;unfold CdM at this;rwa [h.len,h.wd] at this
 ·have:=G;unfold CdM at this;rwa [g.len,g.wd] at this
theorem CdM.sub {a b:MQ} {R C K L:Nat} (H:CdM a K) (G:CdM b L) (h:isM a R C) (g:isM b R C):CdM (YU a b) (K+L+1):=by
 unfold YU;rw[h.len,h.wd]
 refine KQ h.2.2.1 (Cd.sub ?_ ?_)
 ·have:=H;unfold CdM at this;rwa [h.len,h.wd] at this
 ·have:=G;unfold CdM at this;rwa [g.len,g.wd] at this
theorem a4K {n:Nat} (h:1<=n):CdM (idM n) 1:=KQ h (Cd.idm n n)
theorem CdM.MI {a:MQ} {n K:Nat} (H:CdM a K) (h:isM a n n):Cd (gV n (ent a) idm) n (n+n) (K+1):=by
 have:=H;unfold CdM at this;rw[h.len,h.wd] at this
 exact Cd.bes this (Cd.idm n n)
theorem CdM.inv {a:MQ} {n K:Nat} (H:CdM a K) (h:isM a n n):CdM (oN a) (2 ^ n*(K+2)-1):=by
 unfold oN Proofs.YtgplhbhfdgempaaGreat.MI;rw[h.len]
 refine KQ h.2.2.1 ?_
 have H2:=Cd.red (H.MI h) n (by omega)
 obtain⟨D,d1,d2,d3⟩:=H2
 exact⟨D,d1,d2,fun i hi j hj=>d3 i hi (n+j) (by omega)⟩
theorem a9W {a:MQ} {R C:Nat} (h:isM a R C) (h1:szM a 1):CdM a (R*(C+1)+2):=by
 unfold CdM;rw[h.len,h.wd]
 exact Cd.of fun i hi j hj=>h1 i (by rw[h.len];exact hi) j (by rw[h.wd];exact hj)
def okE (a:MQ):Prop:=okM a/\AQ a.length (wdM a) (ent a) (wdM a)
theorem NW {R C:Nat} {f:Nat->Nat->Rat} {i j:Nat} (v:Rat) (hi:i<R):(tab R C f).set i (((tab R C f).getD i []).set j v)=tab R C (fun a b=>if a=i/\b=j then v else f a b):=by
 rw[jI hi,map_set]
 unfold tab;rw[map_set]
 refine jf fun k _=>?_
 by_cases e:k=i
 ·subst e;rw[eY rfl]
  refine jf fun d _=>?_
  show _=if k=k/\d=j then v else f k d
  by_cases e2:d=j
  ·rw[eY e2,eY ⟨rfl,e2⟩]
  ·rw[dw e2,dw (fun h=>e2 h.2)]
 ·rw[dw e]
  refine jf fun d _=>?_
  show _=if k=i/\d=j then v else f k d
  rw[dw (fun h=>e h.1)]
def zV (a:MQ):MQ:=tab a.length (wdM a) (EY a (wdM a)).1
def lC (a:MQ):List Nat:=(EY a (wdM a)).2
def dA (l:List Nat):List Int:=l.map fun p:Nat=>(p:Int)
theorem qX (l:List Nat):(dA l).length=l.length:=by simp[dA]
theorem TM (R r k:Nat):((List.range R).set r k).set k r=(List.range R).map (fun i=>if i=k then r else if i=r then k else i):=by
 have h:=map_set (fun i=>i) R r k
 rw[List.map_id'] at h
 rw[h,map_set]
theorem b3v {R C r k:Nat} {m:Mt} (hr:r<R) (hk:k<R):List.map (fun t=>(tab R C m).getD t []) (((List.range R).set r k).set k r)=tab R C (iV m r k):=by
 rw[TM,List.map_map]
 unfold tab
 refine jf fun i hi=>?_
 have hi:=qN.mp hi
 show (tab R C m).getD (if i=k then r else if i=r then k else i) []=_
 have hb:(if i=k then r else if i=r then k else i)<R:=by
  split
  ·exact hr
  ·split
   ·exact hk
   ·exact hi
 rw[jI hb]
 refine jf fun c _=>?_
 unfold iV
 by_cases e1:i=k
 ·by_cases e2:i=r
  ·rw[eY e1,eY e2];have:r=k:=by omega
   rw[this]
  ·rw[eY e1,dw e2,eY e1]
 ·by_cases e2:i=r
  ·rw[dw e1,eY e2,eY e2]
  ·rw[dw e1,dw e2,dw e2,dw e1]
theorem b3w (R:Nat) {r k:Nat} (hr:r<R) (hk:k<R):(((List.range R).set r k).set k r).Nodup:=by
 rw[TM]
 refine List.nodup_iff_pairwise_ne.mpr (List.pairwise_iff_getElem.mpr fun i j hi hj h=>?_)
 simp only[List.getElem_map,List.getElem_range]
 split<;>split<;>(try split)<;>(try split)<;>omega
theorem swp_get {R r k:Nat} (hr:r<R):(((List.range R).set r k).set k r).getD r 0=k:=by
 rw[TM,gG hr]
 by_cases e:r=k
 ·rw[eY e];exact e
 ·rw[dw e,eY rfl]
theorem VX (l:List Nat) (j:Nat):(dA l).any (fun q=>q==(j:Int))=decide (j ∈ l):=by
 unfold dA
 rw[List.any_map]
 by_cases h:j ∈ l
 ·rw[jw h];exact tY.mpr ⟨j,h,beq_self_eq_true _⟩
 ·rw[jq h]
  refine vC.mpr fun q hq=>?_
  show ¬ ((q:Int)==(j:Int))=true
  intro e
  have:(q:Int)=j:=eq_of_beq e
  exact h (by rw[<-show q=j by omega];exact hq)
theorem b0Y {p:List Nat} {j:Nat} (h:j ∈ p):frees (j+1) p=frees j p:=by unfold frees;rw[Ae,List.filter_append];simp[h]
theorem a8S {p:List Nat} {j:Nat} (h:j ∉ p):frees (j+1) p=frees j p++[j]:=by unfold frees;rw[Ae,List.filter_append];simp[h]
theorem rG {p:List Nat} {t d:Nat} (ht:t<p.length):d ∈ p.take (t+1)↔d ∈ p.take t\/d=p[t]:=by
 rw[Ak,dn ht,qA]
 simp only[Option.toList,lN]
end Go.Proofs.YtgplhbhfdgempaaGreat
