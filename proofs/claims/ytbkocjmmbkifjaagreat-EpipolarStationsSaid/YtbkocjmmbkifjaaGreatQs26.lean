/-
  Lemmas for the theorem vstations28_holds, part 26 of 34.
-/
import Derived.Test.YtbkocjmmbkifjaaGreatQs25
namespace Go.Proofs.YtbkocjmmbkifjaaGreat
open Go Go.RowKit
theorem Dt:type_of% @Int.mul_fdiv_cancel_left:=@Int.mul_fdiv_cancel_left
set_option maxRecDepth 100000
set_option maxHeartbeats 1000000
set_option linter.unusedVariables false
set_option linter.unusedSimpArgs false
theorem a1g {α:Type}:∀ {l:List α},l.length=3->∃ a b c,l=[a,b,c]
 | [a,b,c],_=>⟨a,b,c,rfl⟩
theorem m33.form {K:Nat} {f:MQ} (h:m33 K f):∃ a b c d e g i j k:Rat,f=[[a,b,c],[d,e,g],[i,j,k]]:=by
 have l1:=h.1.1
 have l2:=h.1.2.1
 obtain⟨r,s,t,rfl⟩:=a1g l1
 obtain⟨a,b,c,rfl⟩:=a1g (l2 r (by simp))
 obtain⟨d,e,g,rfl⟩:=a1g (l2 s (by simp))
 obtain⟨i,j,k,rfl⟩:=a1g (l2 t (by simp))
 exact⟨a,b,c,d,e,g,i,j,k,rfl⟩
theorem m33.flat {K:Nat} {f:MQ} (h:m33 K f):f.flatten.length=9/\∀ q ∈ f.flatten,rsz q<=K:=by
 obtain⟨a,b,c,d,e,g,i,j,k,rfl⟩:=h.form
 refine⟨rfl,fun q hq=>?_⟩
 have hq:q ∈ [a,b,c,d,e,g,i,j,k]:=hq
 have h2:∀ x y:Nat,x<3->y<3->rsz (ent [[a,b,c],[d,e,g],[i,j,k]] x y)<=K:=fun x y hx hy=>h.2 x hx y hy
 simp only[qh,yw,Eo] at hq
 rcases hq with rfl|rfl|rfl|rfl|rfl|rfl|rfl|rfl|rfl
 ·exact h2 0 0 (by omega) (by omega)
 ·exact h2 0 1 (by omega) (by omega)
 ·exact h2 0 2 (by omega) (by omega)
 ·exact h2 1 0 (by omega) (by omega)
 ·exact h2 1 1 (by omega) (by omega)
 ·exact h2 1 2 (by omega) (by omega)
 ·exact h2 2 0 (by omega) (by omega)
 ·exact h2 2 1 (by omega) (by omega)
 ·exact h2 2 2 (by omega) (by omega)
theorem m33.rows {K:Nat} {f:MQ} (h:m33 K f):f.length=3/\∀ i,i<3->(f.getD i []).length=3/\∀ j,j<3->rsz (lv (f.getD i []) j)<=K:=⟨h.1.len,fun i hi=>⟨h.1.2.1 _ (nJ (by rw[h.1.len];exact hi)),fun j hj=>h.2 i (by rw[h.1.len];exact hi) j (by rw[h.1.wd];exact hj)⟩⟩
theorem cdI.mul {a b:Int} (ha:cdI a) (hb:cdI b):(a*b).natAbs<=1099511627776:=by
 rw[Int.natAbs_mul]
 exact iq (xq (show a.natAbs<=1048576 by obtain⟨x,y⟩:=ha;omega) (show b.natAbs<=1048576 by obtain⟨x,y⟩:=hb;omega)) (by omega)
noncomputable def c1Q:Ctr:=⟨[tM],[.list tQ],fun x=>(show MQ from x.1).length<=1000/\∀ r ∈ (show MQ from x.1),r.length<=1000,fun x=>((show MQ from x.1).flatten,())⟩
theorem a9A:aI Tryz.prog 119 c1Q:=by
 refine aK Lib.nil ⟨[],[],[]⟩ Tryz.func119 rfl (by decide) (fun x=>[.inv {k:Nat // k<=(show MQ from x.1).length} (fun k=>[(8,.val tI (k.1:Int)),(3,.own 14 0),(14,.any)]) (fun k=>[(14,.row 47 tQ (((show MQ from x.1).take k.1).flatten) 0)]) (fun k=>(show MQ from x.1).length-k.1) ⟨0,by omega⟩ (fun _=>[])]) (fun x hp=>?_)
 obtain⟨f,u⟩:=x
 change List (List Rat) at f
 refine aU ((asT Int 0=0/\(True/\asT (List Rat) (aF Rat)=aF Rat)/\(asT (List Rat) (aF Rat)=aF Rat/\0=0/\asT Bool true=true)/\True)/\∀ (i:{ k:Nat // k<=List.length f }),asT Bool true=true/\ifB (decide (aB (aA i)<aB f.length)) ((0<=aB (aA i)/\aB (aA i)<aB f.length/\True)/\(List.length (List.flatten (List.take (aA i) f))+List.length (List.getD f (aB (aA i)).toNat (aF Rat))<=1000000000/\True)/\∃ (i':{ k:Nat // k<=List.length f }),List.length f-aA i'<List.length f-aA i/\IntKind.wrap IntKind.i64 (aB (aA i)+1)=aB (aA i')/\List.flatten (List.take (aA i) f)++List.getD f (aB (aA i)).toNat (aF Rat)=List.flatten (List.take (aA i') f)/\True) (True/\List.flatten (List.take (aA i) f)=List.flatten f/\True)) (by kernel_rfl) ?_
 have hZ:(⟨false,0,[],[]⟩:aH)=bF:=rfl
 try simp only[aC,aj,ah]
 try dsimp only[aB,asT,aA,aF,Ty.den,Lf.den] at *
 try simp only[hZ,Int.toNat_natCast,aC,aj,ah,jh,jg,gy,bf]
 try simp only[bT,bP,List.all_cons,List.all_nil,jk,dw,ig,jf,jy,ne_eq,au,bg,dn,eu,jd,oq,jr,ou,jh,jg,iw,bn,List.length_cons,List.length_nil]
 obtain⟨hl,hr⟩:f.length<=1000/\∀ r ∈ f,r.length<=1000:=hp
 have hf:∀ k,(f.take k).flatten.length<=1000000:=fun k=>by
  have h1:=a0q (K:=1000) (x:=f.take k) fun r h=>hr r (Ak h)
  have h2:(f.take k).length<=1000:=by rw[ni];omega
  omega
 exact fun i=>⟨fun h1=>⟨⟨by omega,h1⟩,by have:=hf i.1;have:(f.getD i.1 []).length<=1000:=bU hr (by omega);omega,⟨i.1+1,by omega⟩,by simp only;omega,by rw[aP (by omega) (by omega)];rfl,(KR (by omega)).symm⟩,fun h1=>by rw[jv (by omega)]⟩
theorem wM:aI Tryz.prog 58 (cIQ aX (fun i=>(i:Rat))):=by
 refine aK (nil0.ad JO) ⟨[2],[],[]⟩ Tryz.func58 rfl (by decide) (fun x=>[]) (fun x hp=>?_)
 obtain⟨n,u⟩:=x
 change Int at n
 refine aU ((aX n/\True)/\True/\aO n=aO n/\True) (by kernel_rfl) ?_
 have hZ:(⟨false,0,[],[]⟩:aH)=bF:=rfl
 try simp only[aC,aj,ah]
 try dsimp only[aB,asT,aA,aF,Ty.den,Lf.den] at *
 try simp only[hZ,Int.toNat_natCast,aC,aj,ah,jh,jg,gy,bf]
 try simp only[bT,bP,List.all_cons,List.all_nil,jk,dw,ig,jf,jy,ne_eq,au,bg,dn,eu,jd,oq,jr,ou,jh,jg,iw,bn,List.length_cons,List.length_nil]
 exact hp
def WO (x y:LQ'):Prop:=x.length=y.length/\x.length<=64/\∀ i,i<x.length->rsz (lv x i)<=20000/\rsz (lv y i)<=20000
theorem b3y {x y:LQ'} {A B:Nat} {k:Nat} (h:∀ i,i<k->rsz (lv x i)<=A/\rsz (lv y i)<=B):rsz (pV x y k)<=k*(A+B+1)+1 :=
 UN (K:=A+B) (f:=fun i=>lv x i*lv y i) k (fun i hi=>by
  have ⟨a,b⟩:=h i hi
  have:=lS (lv x i) (lv y i);show rsz (lv x i*lv y i)<=_;omega)
theorem WO.sz {x y:LQ'} (h:WO x y) {k:Nat} (hk:k<=x.length):rsz (pV x y k)<=4000000:=by
 have h1:=b3y (x:=x) (y:=y) (A:=20000) (B:=20000) (k:=k) fun i hi=>h.2.2 i (by omega)
 have h2:=h.2.1
 have:k*20001<=64*20001:=xq (by omega) (by omega)
 omega
noncomputable def c1M:Ctr:=⟨[.list tQ,.list tQ],[tQ],fun x=>WO x.1 x.2.1,fun x=>(pV x.1 x.2.1 (show LQ' from x.1).length,())⟩
theorem a9q:aI Tryz.prog 18 c1M:=by
 refine aK (((nil0.ad PE).ad PO).ad wM) ⟨[4,5],[],[]⟩ Tryz.func18 rfl (by decide) (fun x=>[.inv {k:Nat // k<=(show LQ' from x.1).length} (fun k=>[(10,.val tI (k.1:Int))]) (fun k=>[(4,.box [⟨tR,bF⟩]),(5,.box [⟨tQ,pV x.1 x.2.1 k.1⟩])]) (fun k=>(show LQ' from x.1).length-k.1) ⟨0,by omega⟩ (fun _=>[])]) (fun x hp=>?_)
 obtain⟨x,y,u⟩:=x
 change List Rat at x
 change List Rat at y
 refine aU ((aX 0/\True)/\(asT Int 0=0/\asT aH bF=bF/\aO 0=pV x y 0/\True)/\∀ (i:{ k:Nat // k<=List.length x }),asT Bool true=true/\ifB (decide (aB (aA i)<aB x.length)) ((0<=aB (aA i)/\aB (aA i)<aB x.length/\0<=aB (aA i)/\aB (aA i)<aB y.length/\s19 (List.getD x (aB (aA i)).toNat 0) (List.getD y (aB (aA i)).toNat 0)/\s19 (pV x y (aA i)) (List.getD x (aB (aA i)).toNat 0*List.getD y (aB (aA i)).toNat 0)/\True)/\∃ (i':{ k:Nat // k<=List.length x }),List.length x-aA i'<List.length x-aA i/\IntKind.wrap IntKind.i64 (aB (aA i)+1)=aB (aA i')/\asT aH bF=bF/\pV x y (aA i)+List.getD x (aB (aA i)).toNat 0*List.getD y (aB (aA i)).toNat 0=pV x y (aA i')/\True) (True/\pV x y (aA i)=pV x y x.length/\True)) (by kernel_rfl) ?_
 have hZ:(⟨false,0,[],[]⟩:aH)=bF:=rfl
 try simp only[aC,aj,ah]
 try dsimp only[aB,asT,aA,aF,Ty.den,Lf.den] at *
 try simp only[hZ,Int.toNat_natCast,aC,aj,ah,jh,jg,gy,bf]
 try simp only[bT,bP,List.all_cons,List.all_nil,jk,dw,ig,jf,jy,ne_eq,au,bg,dn,eu,jd,oq,jr,ou,jh,jg,iw,bn,List.length_cons,List.length_nil]
 have hp:WO x y:=hp
 have hs:=fun k (hk:k<=x.length)=>hp.sz hk
 obtain⟨hl,h64,hr⟩:=hp
 refine⟨⟨by omega,by omega⟩,rfl,fun i=>⟨fun h1=>?_,fun h1=>?_⟩⟩
 ·have hi:i.1<x.length:=by omega
  have a1:rsz (x.getD i.1 0)<=20000:=(hr i.1 hi).1
  have a2:rsz (y.getD i.1 0)<=20000:=(hr i.1 hi).2
  have a3:=hs i.1 i.2
  have a4:=lS (x.getD i.1 0) (y.getD i.1 0)
  exact⟨⟨by omega,h1,by omega,by omega,⟨by omega,by omega⟩,⟨by omega,by omega⟩⟩,⟨i.1+1,by omega⟩,by simp only;omega,by rw[aP (by omega) (by omega)];rfl,rfl⟩
 ·rw[show i.1=x.length by have:=i.2;omega]
set_option maxHeartbeats 4000000
theorem SE (a b:Int):aO (a*b)=aO a*aO b:=yg a b
def gsq (xs:Nat->Int):Nat->Int
 | 0=>0
 | k+1=>((Int.gcd (gsq xs k) (xs k):Nat):Int)
def fsq (xs:Nat->Int):Nat->Int
 | 0=>0
 | k+1=>if fsq xs k=0 then xs k else fsq xs k
theorem IB {xs:Nat->Int} {K:Nat}:∀ k,(∀ j,j<k->isz (xs j)<=K)->isz (gsq xs k)<=K
 | 0,_=>by show isz 0<=K;rw[SH];omega
 | k+1,h=>by
  have ih:=IB k (fun j hj=>h j (by omega))
  show isz ((Int.gcd (gsq xs k) (xs k):Nat):Int)<=K
  by_cases hx:xs k=0
  ·rw[hx,Int.gcd_zero_right]
   have:isz (((gsq xs k).natAbs:Nat):Int)=isz (gsq xs k):=by unfold isz;simp
   omega
  ·exact kU hx (h k (by omega))
theorem a9S {xs:Nat->Int} {j:Nat} (hj:xs j≠0):∀ k,j<k->gsq xs k≠0
 | 0,h=>by omega
 | k+1,h=>by
  show ((Int.gcd (gsq xs k) (xs k):Nat):Int)≠0
  intro e
  have e':Int.gcd (gsq xs k) (xs k)=0:=by omega
  rw[Int.gcd_eq_zero_iff] at e'
  by_cases hk:j=k
  ·subst hk;exact hj e'.2
  ·exact a9S hj k (by omega) e'.1
theorem a0s {xs:Nat->Int}:∀ k j,j<k->gsq xs k ∣ xs j
 | 0,j,h=>by omega
 | k+1,j,h=>by
  show ((Int.gcd (gsq xs k) (xs k):Nat):Int) ∣ xs j
  by_cases e:j=k
  ·subst e;exact Int.gcd_dvd_right ..
  ·exact Int.dvd_trans (Int.gcd_dvd_left ..) (a0s k j (by omega))
theorem a0A {x y:Int} (hy:y≠0) (h:y ∣ x):isz (x.fdiv y)<=isz x:=by
 obtain⟨t,rfl⟩:=h
 rw[Dt _ hy]
 unfold isz
 rw[Int.natAbs_mul]
 exact AB (Nat.le_mul_of_pos_left _ (by omega))
def kV (q:Nat->Rat):Nat->Int
 | 0=>1
 | k+1=>kV q k*((q k).den:Int).fdiv ((Int.gcd (kV q k) ((q k).den:Int):Nat):Int)
def rO (q:Nat->Rat):Nat->Int
 | 0=>1
 | k+1=>rO q k*((q k).den:Int)
def a2o (q:Nat->Rat):Nat->Nat
 | 0=>1
 | k+1=>Nat.lcm (a2o q k) (q k).den
def QL (D:Int) (q:Nat->Rat) (j:Nat):Int:=(q j).num*D.fdiv ((q j).den:Int)
def prG (xs:Nat->Int) (n:Nat):Int:=if fsq xs n<0 then -gsq xs n else gsq xs n
def prN (xs:Nat->Int) (n j:Nat):Int:=(xs j).fdiv (prG xs n)
theorem OT (q:Nat->Rat):∀ k,kV q k=(a2o q k:Nat)
 | 0=>rfl
 | k+1=>by
  show kV q k*((q k).den:Int).fdiv ((Int.gcd (kV q k) ((q k).den:Int):Nat):Int)=((Nat.lcm (a2o q k) (q k).den:Nat):Int)
  rw[OT q k,Int.gcd_natCast_natCast,<-Int.ofNat_fdiv,<-Int.natCast_mul,<-Nat.mul_div_assoc _ (Nat.gcd_dvd_right _ _)];rfl
theorem SL (q:Nat->Rat):∀ k,0<a2o q k
 | 0=>Nat.one_pos
 | k+1=>Nat.lcm_pos (SL q k) (q k).den_pos
theorem SK {q:Nat->Rat}:∀ k j,j<k->(q j).den ∣ a2o q k
 | 0,j,h=>by omega
 | k+1,j,h=>by
  show (q j).den ∣ Nat.lcm (a2o q k) (q k).den
  by_cases e:j=k
  ·subst e;exact Nat.dvd_lcm_right _ _
  ·exact Nat.dvd_trans (SK k j (by omega)) (Nat.dvd_lcm_left _ _)
theorem a2p {q:Nat->Rat} {D:Nat}:∀ k,(∀ j,j<k->(q j).den ∣ D)->a2o q k ∣ D
 | 0,_=>Nat.one_dvd _
 | k+1,h=>Nat.lcm_dvd (a2p k fun j hj=>h j (by omega)) (h k (by omega))
theorem IQ (q:Nat->Rat) (k:Nat):kV q k≠0:=by rw[OT];have:=SL q k;omega
theorem oL {q:Nat->Rat} {k j:Nat} (h:j<k):((q j).den:Int) ∣ kV q k:=by rw[OT];exact Int.natCast_dvd_natCast.2 (SK k j h)
def mulN (q:Nat->Rat):Nat->Nat
 | 0=>1
 | k+1=>mulN q k*(q k).den
theorem OY (q:Nat->Rat):∀ k,rO q k=(mulN q k:Nat)
 | 0=>rfl
 | k+1=>by
  show rO q k*((q k).den:Int)=((mulN q k*(q k).den:Nat):Int)
  rw[OY q k,Int.natCast_mul]
theorem TK (q:Nat->Rat):∀ k,0<mulN q k
 | 0=>Nat.one_pos
 | k+1=>Nat.mul_pos (TK q k) (q k).den_pos
theorem TJ {q:Nat->Rat}:∀ k j,j<k->(q j).den ∣ mulN q k
 | 0,j,h=>by omega
 | k+1,j,h=>by
  show (q j).den ∣ mulN q k*(q k).den
  by_cases e:j=k
  ·subst e;exact Nat.dvd_mul_left _ _
  ·exact Nat.dvd_trans (TJ k j (by omega)) (Nat.dvd_mul_right _ _)
theorem b4i (q:Nat->Rat) (k:Nat):rO q k≠0:=by rw[OY];have:=TK q k;omega
theorem TI {q:Nat->Rat} {k j:Nat} (h:j<k):((q j).den:Int) ∣ rO q k:=by rw[OY];exact Int.natCast_dvd_natCast.2 (TJ k j h)
theorem a2z {q:Nat->Rat} {K n:Nat} (h:∀ k,k<n->rsz (q k)<=K):∀ k,k<=n->isz (rO q k)<=k*K+1
 | 0,_=>by show isz 1<=_;rw[show isz 1=1 by decide +kernel];omega
 | k+1,hk=>by
  have ih:=a2z h k (by omega)
  have m:=gJ (rO q k) ((q k).den:Int)
  have d:=kJ (q k)
  have:=h k (by omega)
  show isz (rO q k*((q k).den:Int))<=_
  rw[Aa]
  omega
theorem b6n (q:Nat->Rat) (k:Nat):((Int.gcd (kV q k) ((q k).den:Int):Nat):Int)≠0:=fun e=>by
 have e:Int.gcd (kV q k) ((q k).den:Int)=0:=by omega
 exact IQ q k (Int.gcd_eq_zero_iff.1 e).1
theorem b6o {q:Nat->Rat} {K k:Nat} (h:rsz (q k)<=K):isz (((q k).den:Int).fdiv ((Int.gcd (kV q k) ((q k).den:Int):Nat):Int))<=K :=
 iq (a0A (b6n q k) (Int.gcd_dvd_right ..)) (iq (kJ _) h)
theorem IL {q:Nat->Rat} {K n:Nat} (h:∀ k,k<n->rsz (q k)<=K):∀ k,k<=n->isz (kV q k)<=k*K+1
 | 0,_=>by show isz 1<=_;rw[show isz 1=1 by decide +kernel];omega
 | k+1,hk=>by
  have ih:=IL h k (by omega)
  have m:=gJ (kV q k) (((q k).den:Int).fdiv ((Int.gcd (kV q k) ((q k).den:Int):Nat):Int))
  have d:=b6o (h k (by omega))
  show isz (kV q k*((q k).den:Int).fdiv ((Int.gcd (kV q k) ((q k).den:Int):Nat):Int))<=_
  rw[Aa]
  omega
theorem a3x {D:Int} {q:Nat->Rat} {j C:Nat} (hD:isz D<=C) (h:((q j).den:Int) ∣ D):isz (D.fdiv ((q j).den:Int))<=C :=
 iq (a0A (by have:=(q j).den_nz;omega) h) hD
theorem GI {D:Int} {q:Nat->Rat} {j K C:Nat} (hD:isz D<=C) (h:((q j).den:Int) ∣ D) (hK:rsz (q j)<=K):isz (QL D q j)<=K+C:=by
 have m:=gJ (q j).num (D.fdiv ((q j).den:Int))
 have a:=oQ (q j)
 have b:=a3x hD h
 unfold QL;omega
theorem GK {D:Int} {q:Nat->Rat} {j:Nat} (h0:D≠0) (h:((q j).den:Int) ∣ D) (hq:q j≠0):QL D q j≠0:=by
 intro e
 unfold QL at e
 obtain⟨t,rfl⟩:=h
 have hd:((q j).den:Int)≠0:=by have:=(q j).den_nz;omega
 rw[Dt _ hd] at e
 rcases Int.mul_eq_zero.1 e with e|e
 ·exact hq (Rat.num_eq_zero.1 e)
 ·exact h0 (by rw[e,Int.mul_zero])
theorem a6b {xs:Nat->Int} {n j:Nat} (hj:j<n):prG xs n ∣ xs j:=by
 unfold prG
 split
 ·exact Int.neg_dvd.2 (a0s n j hj)
 ·exact a0s n j hj
theorem TW {xs:Nat->Int} {n j:Nat} (hj:j<n) (h:xs j≠0):prG xs n≠0:=by
 have:=a9S h n hj
 unfold prG
 split<;>omega
theorem a6c {xs:Nat->Int} {n K:Nat} (h:∀ j,j<n->isz (xs j)<=K):isz (prG xs n)<=K:=by
 unfold prG
 split
 ·rw[kH];exact IB n h
 ·exact IB n h
theorem a6d {xs:Nat->Int} {n j K:Nat} (hj:j<n) (h0:prG xs n≠0) (h:isz (xs j)<=K):isz (prN xs n j)<=K:=iq (a0A h0 (a6b hj)) h
theorem XI {t:Nat} {xs ys:Nat->Int} {n:Nat} (h:∀ j,j<n->ys j=(t:Int)*xs j):∀ k,k<=n->gsq ys k=(t:Int)*gsq xs k
 | 0,_=>by show (0:Int)=(t:Int)*0;rw[Int.mul_zero]
 | k+1,hk=>by
  show ((Int.gcd (gsq ys k) (ys k):Nat):Int)=(t:Int)*((Int.gcd (gsq xs k) (xs k):Nat):Int)
  rw[XI h k (by omega),h k (by omega),Int.gcd_mul_left,Int.natAbs_natCast,Int.natCast_mul]
theorem XD {t:Nat} (ht:0<t) {xs ys:Nat->Int} {n:Nat} (h:∀ j,j<n->ys j=(t:Int)*xs j):∀ k,k<=n->fsq ys k=(t:Int)*fsq xs k
 | 0,_=>by show (0:Int)=(t:Int)*0;rw[Int.mul_zero]
 | k+1,hk=>by
  show (if fsq ys k=0 then ys k else fsq ys k)=(t:Int)*(if fsq xs k=0 then xs k else fsq xs k)
  rw[XD ht h k (by omega),h k (by omega)]
  by_cases e:fsq xs k=0
  ·rw[jm e,jm (by rw[e,Int.mul_zero])]
  ·rw[ji e,ji (fun e2=>by rcases Int.mul_eq_zero.1 e2 with e2|e2<;>omega)]
theorem a7L {t:Nat} (ht:0<t) {xs ys:Nat->Int} {n j:Nat} (h:∀ j,j<n->ys j=(t:Int)*xs j) (hj:j<n):prN ys n j=prN xs n j:=by
 have ht':(0:Int)<(t:Int):=by omega
 have e:prG ys n=(t:Int)*prG xs n:=by
  unfold prG
  rw[XI h n (ay n),XD ht h n (ay n)]
  by_cases e:fsq xs n<0
  ·rw[jm e,jm (Int.mul_neg_of_pos_of_neg ht' e),Int.mul_neg]
  ·rw[ji e,ji (fun e2=>by have:=Int.mul_nonneg (Int.le_of_lt ht') (show 0<=fsq xs n by omega);omega)]
 unfold prN
 rw[e,h j hj,Int.mul_fdiv_mul_of_pos _ _ ht']
def b1C (q:Nat->Rat) (n:Nat):List Int:=(List.range n).map (prN (QL (kV q n) q) n)
def c3n (q:Nat->Rat) (n:Nat):List Int:=(List.range n).map (prN (QL (rO q n) q) n)
theorem b1D (q:Nat->Rat) (n:Nat):c3n q n=b1C q n:=by
 obtain⟨t,ht⟩:a2o q n ∣ mulN q n:=a2p n fun j hj=>TJ n j hj
 have h0:=SL q n
 have h1:=TK q n
 have t0:0<t:=Nat.pos_of_ne_zero fun e=>by rw[e,Nat.mul_zero] at ht;omega
 unfold c3n b1C
 refine qj fun j hj=>a7L t0 (fun k hk=>?_) (vw.1 hj)
 unfold QL
 obtain⟨s,hs⟩:=SK (q:=q) n k hk
 have hd:((q k).den:Int)≠0:=by have:=(q k).den_nz;omega
 rw[OY,OT,ht,hs,Int.natCast_mul,Int.natCast_mul,Int.mul_assoc,Dt _ hd,Dt _ hd]
 grind
set_option maxHeartbeats 1000000
def yQ (l:LQ'):Prop:=l.length<=64/\(∀ q ∈ l,rsz q<=1000000)/\∃ q ∈ l,q≠0
def lcN (l:LQ') (j:Nat):Int:=QL (kV (lv l) l.length) (lv l) j
def qC (l:LQ'):List Int:=b1C (lv l) l.length
noncomputable def c2e:Ctr:=⟨[.list tQ],[.list tZ],fun x=>yQ x.1,fun x=>(qC x.1,())⟩
def prO (N:Nat->Int) (n k:Nat):List Int:=(List.range n).map fun j=>if j<k then prN N n j else N j
theorem jG {N:Nat->Int} {n k:Nat}:(prO N n k).length=n:=by unfold prO;simp
theorem xO {N:Nat->Int} {n k j:Nat} (h:j<n):(prO N n k).getD j 0=if j<k then prN N n j else N j:=by
 unfold prO
 rw[iy,xk,Bf h];rfl
theorem a6e {N:Nat->Int} {n:Nat}:(List.range n).map N=prO N n 0:=qj fun j _=>(ji (by omega)).symm
theorem a6f {N:Nat->Int} {n:Nat}:prO N n n=(List.range n).map (prN N n):=qj fun j hj=>jm (vw.1 hj)
theorem OZ {N:Nat->Int} {n k:Nat} (h:k<n):(prO N n k).set k (((prO N n k).getD k 0).fdiv (prG N n))=prO N n (k+1):=by
 rw[xO h,ji (by omega)]
 apply List.ext_getElem?
 intro j
 unfold prO
 rw[List.getElem?_set]
 by_cases e:k=j
 ·subst e
  rw[jm rfl,xk,Bf h,jm (by simpa using h)]
  show some _=some (if k<k+1 then prN N n k else N k)
  rw[jm (by omega)];rfl
 ·rw[ji e,xk,xk]
  by_cases hj:j<n
  ·rw[Bf hj]
   show some (if j<k then prN N n j else N j)=some (if j<k+1 then prN N n j else N j)
   by_cases h2:j<k
   ·rw[jm h2,jm (by omega)]
   ·rw[ji h2,ji (by omega)]
  ·rw[xg (by simpa using hj)];rfl
theorem yQ.at {l:LQ'} (h:yQ l):(∀ k,k<l.length->rsz (lv l k)<=1000000)/\∃ j,j<l.length/\lv l j≠0:=by
 refine⟨fun k hk=>bU h.2.1 hk,?_⟩
 obtain⟨q,hq,hz⟩:=h.2.2
 obtain⟨j,hj,rfl⟩:=Df hq
 exact⟨j,hj,by show l.getD j 0≠0;rw[iy,jc hj];exact hz⟩
theorem b2k {x:Int}:(x.sign=0)=(x=0):=propext Em
theorem c1c {x:Int}:(sgn x=0)=(x=0):=propext Em
theorem a0i (q:Rat):((q.den:Nat):Int)≠0:=by have:=q.den_nz;omega
theorem b4R:aI Tryz.prog 149 c2e:=by
 refine aK ((((((nil0.ad ZK).ad IG).ad wH).ad zN).ad qZ).ad SA) ⟨[3,5,6,7,8,11,12,14,15,16,18,20],[],[]⟩ Tryz.func149 rfl (by decide) (fun x=>[.inv {k:Nat // k<=(show LQ' from x.1).length} (fun k=>[(24,.val tI (k.1:Int))]) (fun k=>[(3,.box [⟨tZ,kV (lv (show LQ' from x.1)) k.1⟩])]) (fun k=>(show LQ' from x.1).length-k.1) ⟨0,by omega⟩ (fun _=>[]),
  .inv {k:Nat // k<=(show LQ' from x.1).length} (fun k=>[(46,.val tI (k.1:Int)),(10,.own 64 0),(64,.any)]) (fun k=>[(64,.row 45 tZ ((List.range k.1).map (lcN (show LQ' from x.1))) 0),(3,.box [⟨tZ,kV (lv (show LQ' from x.1)) (show LQ' from x.1).length⟩]),(11,.box [⟨tZ,gsq (lcN (show LQ' from x.1)) k.1⟩]),(12,.box [⟨tZ,fsq (lcN (show LQ' from x.1)) k.1⟩])]) (fun k=>(show LQ' from x.1).length-k.1) ⟨0,by omega⟩ (fun _=>[]),
  .inv {k:Nat // k<=(show LQ' from x.1).length} (fun k=>[(81,.val tI (k.1:Int))]) (fun k=>[(64,.row 45 tZ (prO (lcN (show LQ' from x.1)) (show LQ' from x.1).length k.1) 0),(11,.box [⟨tZ,prG (lcN (show LQ' from x.1)) (show LQ' from x.1).length⟩])]) (fun k=>(show LQ' from x.1).length-k.1) ⟨0,by omega⟩ (fun _=>[])]) (fun x hp=>?_)
 obtain⟨l,u⟩:=x
 change List Rat at l
 refine aU (let A₀:=(kV (lv l) l.length);let A₁:=(prG (lcN l) l.length);(aX 1/\True)/\(asT Int 0=0/\1=kV (lv l) 0/\True)/\∀ (i:{ k:Nat // k<=List.length l }),let aJ:=(kV (lv l) (aA i));let A₂:=(Int.gcd aJ (aB (Rat.den (List.getD l (aB (aA i)).toNat 0))));asT Bool true=true/\ifB (decide (aB (aA i)<aB l.length)) ((0<=aB (aA i)/\aB (aA i)<aB l.length/\True)/\((isz aJ<=1000000000/\isz (aB (Rat.den (List.getD l (aB (aA i)).toNat 0)))<=1000000000)/\True)/\((isz (aB (Rat.den (List.getD l (aB (aA i)).toNat 0)))<=1000000000/\isz (aB A₂)<=1000000000/\aB A₂≠0)/\True)/\((isz aJ<=1000000000/\isz (Int.fdiv (aB (Rat.den (List.getD l (aB (aA i)).toNat 0))) (aB A₂))<=1000000000)/\True)/\∃ (i':{ k:Nat // k<=List.length l }),List.length l-aA i'<List.length l-aA i/\IntKind.wrap IntKind.i64 (aB (aA i)+1)=aB (aA i')/\kV (lv l) (aA i)*Int.fdiv (aB (Rat.den (List.getD l (aB (aA i)).toNat 0))) (aB A₂)=kV (lv l) (aA i')/\True) ((asT Int 0=0/\(True/\asT (List Int) (aF Int)=aF Int)/\(asT (List Int) (aF Int)=aF Int/\0=0/\asT Bool true=true)/\kV (lv l) (aA i)=kV (lv l) l.length/\0=gsq (lcN l) 0/\0=fsq (lcN l) 0/\True)/\∀ (i:{ k:Nat // k<=List.length l }),let aT:=(List.getD l (aB (aA i)).toNat 0);let bV:=(Rat.num aT*Int.fdiv A₀ (aB (Rat.den aT)));let dH:=(List.map (lcN l) (List.range (aA i)));let dD:=(gsq (lcN l) (aA i));asT Bool true=true/\ifB (decide (aB (aA i)<aB l.length)) ((0<=aB (aA i)/\aB (aA i)<aB l.length/\True)/\((isz A₀<=1000000000/\isz (aB (Rat.den aT))<=1000000000/\aB (Rat.den aT)≠0)/\True)/\((isz (Rat.num aT)<=1000000000/\isz (Int.fdiv A₀ (aB (Rat.den aT)))<=1000000000)/\True)/\(List.length dH+List.length (Rat.num aT*Int.fdiv A₀ (aB (Rat.den aT))::aF Int)<=1000000000/\True)/\((isz dD<=1000000000/\isz bV<=1000000000)/\True)/\(True/\True)/\ifB (Int.sign (fsq (lcN l) (aA i))==0) (∃ (i':{ k:Nat // k<=List.length l }),List.length l-aA i'<List.length l-aA i/\IntKind.wrap IntKind.i64 (aB (aA i)+1)=aB (aA i')/\List.map (lcN l) (List.range (aA i))++Rat.num aT*Int.fdiv A₀ (aB (Rat.den aT))::aF Int=List.map (lcN l) (List.range (aA i'))/\kV (lv l) l.length=kV (lv l) l.length/\aB (Int.gcd dD bV)=gsq (lcN l) (aA i')/\Rat.num aT*Int.fdiv A₀ (aB (Rat.den aT))=fsq (lcN l) (aA i')/\True) (∃ (i':{ k:Nat // k<=List.length l }),List.length l-aA i'<List.length l-aA i/\IntKind.wrap IntKind.i64 (aB (aA i)+1)=aB (aA i')/\List.map (lcN l) (List.range (aA i))++Rat.num aT*Int.fdiv A₀ (aB (Rat.den aT))::aF Int=List.map (lcN l) (List.range (aA i'))/\kV (lv l) l.length=kV (lv l) l.length/\aB (Int.gcd dD bV)=gsq (lcN l) (aA i')/\fsq (lcN l) (aA i)=fsq (lcN l) (aA i')/\True)) ((True/\True)/\ifB (decide (Int.sign (fsq (lcN l) (aA i))<0)) ((isz dD<=1000000000/\True)/\(asT Int 0=0/\List.map (lcN l) (List.range (aA i))=prO (lcN l) l.length 0/\-gsq (lcN l) (aA i)=prG (lcN l) l.length/\True)/\∀ (i_1:{ k:Nat // k<=List.length l }),let eP:=(prO (lcN l) l.length (aA i_1));let fZ:=(aB (aA i_1)).toNat;asT Bool true=true/\ifB (decide (aB (aA i_1)<aB dH.length)) ((0<=aB (aA i_1)/\aB (aA i_1)<aB eP.length/\Int.toNat (aB (aA i_1))<List.length eP/\True)/\((isz (List.getD eP fZ 0)<=1000000000/\isz A₁<=1000000000/\prG (lcN l) l.length≠0)/\0<=aB (aA i_1)/\aB (aA i_1)<aB eP.length/\Int.toNat (aB (aA i_1))<List.length eP/\True)/\∃ (i':{ k:Nat // k<=List.length l }),List.length l-aA i'<List.length l-aA i_1/\IntKind.wrap IntKind.i64 (aB (aA i_1)+1)=aB (aA i')/\List.set eP fZ (Int.fdiv (List.getD eP fZ 0) A₁)=prO (lcN l) l.length (aA i')/\prG (lcN l) l.length=prG (lcN l) l.length/\True) (True/\prO (lcN l) l.length (aA i_1)=qC l/\True)) ((asT Int 0=0/\List.map (lcN l) (List.range (aA i))=prO (lcN l) l.length 0/\gsq (lcN l) (aA i)=prG (lcN l) l.length/\True)/\∀ (i_1:{ k:Nat // k<=List.length l }),let dU:=(prO (lcN l) l.length (aA i_1));let gX:=(aB (aA i_1)).toNat;asT Bool true=true/\ifB (decide (aB (aA i_1)<aB dH.length)) ((0<=aB (aA i_1)/\aB (aA i_1)<aB dU.length/\Int.toNat (aB (aA i_1))<List.length dU/\True)/\((isz (List.getD dU gX 0)<=1000000000/\isz A₁<=1000000000/\prG (lcN l) l.length≠0)/\0<=aB (aA i_1)/\aB (aA i_1)<aB dU.length/\Int.toNat (aB (aA i_1))<List.length dU/\True)/\∃ (i':{ k:Nat // k<=List.length l }),List.length l-aA i'<List.length l-aA i_1/\IntKind.wrap IntKind.i64 (aB (aA i_1)+1)=aB (aA i')/\List.set dU gX (Int.fdiv (List.getD dU gX 0) A₁)=prO (lcN l) l.length (aA i')/\prG (lcN l) l.length=prG (lcN l) l.length/\True) (True/\prO (lcN l) l.length (aA i_1)=qC l/\True))))) (by kernel_rfl) ?_
 have hZ:(⟨false,0,[],[]⟩:aH)=bF:=rfl
 try simp only[aC,aj,ah]
 try dsimp only[aB,asT,aA,aF,Ty.den,Lf.den] at *
 try simp only[hZ,Int.toNat_natCast,aC,aj,ah,jh,jg,gy,bf]
 try simp only[bT,bP,List.all_cons,List.all_nil,jk,dw,ig,jf,jy,ne_eq,au,bg,dn,eu,jd,oq,jr,ou,jh,jg,iw,bn,List.length_cons,List.length_nil]
 have hp:yQ l:=hp
 obtain⟨hK,j0,hj0,hx0⟩:=hp.at
 have hn:=hp.1
 have hv:∀ j,l.getD j 0=lv l j:=fun _=>rfl
 simp only[hv,ru,bf,b2k] at *
 have hL:∀ k,k<=l.length->isz (kV (lv l) k)<=64000001:=fun k hk=>iq (IL hK k hk) (by omega)
 have hd:∀ k,k<l.length->isz ((lv l k).den:Int)<=1000000:=fun k hk=>iq (kJ _) (hK k hk)
 have hm:∀ k,k<l.length->isz (lv l k).num<=1000000:=fun k hk=>iq (oQ _) (hK k hk)
 have hN:∀ j,j<l.length->isz (lcN l j)<=65000001:=fun j hj=>iq (GI (hL _ (ay _)) (oL hj) (hK j hj)) (by omega)
 have hne:prG (lcN l) l.length≠0:=TW hj0 (GK (IQ _ _) (oL hj0) hx0)
 have hG:isz (prG (lcN l) l.length)<=65000001:=a6c hN
 have hg:∀ k,k<=l.length->isz (gsq (lcN l) k)<=65000001:=fun k hk=>IB k fun j hj=>hN j (by omega)
 have hN2:∀ j,(lv l j).num*(kV (lv l) l.length).fdiv ((lv l j).den:Int)=lcN l j:=fun _=>rfl
 simp only[hN2]
 refine⟨⟨by omega,by omega⟩,rfl,fun i=>⟨fun h1=>?_,fun h1=>⟨⟨by rw[show i.1=l.length by have:=i.2;omega],rfl,rfl⟩,fun i2=>⟨fun h2=>?_,fun h2=>?_⟩⟩⟩⟩
 ·have hi:i.1<l.length:=by omega
  exact⟨⟨by omega,h1⟩,⟨iq (hL _ i.2) (by omega),iq (hd _ hi) (by omega)⟩,⟨iq (hd _ hi) (by omega),iq (kU (a0i _) (hd _ hi)) (by omega),b6n _ _⟩,⟨iq (hL _ i.2) (by omega),iq (b6o (hK _ hi)) (by omega)⟩,⟨i.1+1,by omega⟩,by simp only;omega,by rw[aP (by omega) (by omega)];rfl,rfl⟩
 ·have hi:i2.1<l.length:=by omega
  refine⟨⟨by omega,h2⟩,⟨iq (hL _ (ay _)) (by omega),iq (hd _ hi) (by omega),a0i _⟩,⟨iq (hm _ hi) (by omega),iq (a3x (hL _ (ay _)) (oL hi)) (by omega)⟩,by omega,⟨iq (hg _ i2.2) (by omega),iq (hN _ hi) (by omega)⟩,fun h3=>⟨⟨i2.1+1,by omega⟩,by simp only;omega,by rw[aP (by omega) (by omega)];rfl,?_,rfl,?_⟩,fun h3=>⟨⟨i2.1+1,by omega⟩,by simp only;omega,by rw[aP (by omega) (by omega)];rfl,?_,rfl,?_⟩⟩
  ·rw[Bj,List.map_append];rfl
  ·exact(jm h3).symm
  ·rw[Bj,List.map_append];rfl
  ·exact(ji h3).symm
 ·have hi2:i2.1=l.length:=by have:=i2.2;omega
  rw[hi2]
  refine⟨fun h3=>⟨iq (hg _ (ay _)) (by omega),?_⟩,fun h3=>?_⟩
  ·refine⟨⟨a6e,(jm (Dy.1 h3)).symm⟩,fun i3=>⟨fun h4=>?_,fun h4=>?_⟩⟩
   ·have hi3:i3.1<l.length:=by omega
    rw[xO hi3,ji (by omega)]
    refine⟨⟨by omega,by rw[jG];omega,by rw[jG];exact hi3⟩,⟨⟨iq (hN _ hi3) (by omega),iq hG (by omega),hne⟩,by omega,by rw[jG];omega,by rw[jG];exact hi3⟩,⟨i3.1+1,by omega⟩,by simp only;omega,by rw[aP (by omega) (by omega)];rfl,?_⟩
    have:=OZ (N:=lcN l) hi3
    rw[xO hi3,ji (by omega)] at this
    exact this
   ·rw[show i3.1=l.length by have:=i3.2;omega,a6f];rfl
  ·refine⟨⟨a6e,(ji (fun e=>h3 (Dy.2 e))).symm⟩,fun i3=>⟨fun h4=>?_,fun h4=>?_⟩⟩
   ·have hi3:i3.1<l.length:=by omega
    rw[xO hi3,ji (by omega)]
    refine⟨⟨by omega,by rw[jG];omega,by rw[jG];exact hi3⟩,⟨⟨iq (hN _ hi3) (by omega),iq hG (by omega),hne⟩,by omega,by rw[jG];omega,by rw[jG];exact hi3⟩,⟨i3.1+1,by omega⟩,by simp only;omega,by rw[aP (by omega) (by omega)];rfl,?_⟩
    have:=OZ (N:=lcN l) hi3
    rw[xO hi3,ji (by omega)] at this
    exact this
   ·rw[show i3.1=l.length by have:=i3.2;omega,a6f];rfl
def lrN (l:LQ') (j:Nat):Int:=QL (rO (lv l) l.length) (lv l) j
theorem b0W:aI Tryz.prog 102 c2e:=by
 refine aK ((((((nil0.ad a6K).ad b2W).ad a3h).ad QA).ad DN).ad a6L) ⟨[3,5,7,10,11,12,14],[],[]⟩ Tryz.func102 rfl (by decide) (fun x=>[.inv {k:Nat // k<=(show LQ' from x.1).length} (fun k=>[(19,.val tI (k.1:Int))]) (fun k=>[(3,.box [⟨tZ,rO (lv (show LQ' from x.1)) k.1⟩])]) (fun k=>(show LQ' from x.1).length-k.1) ⟨0,by omega⟩ (fun _=>[]),
  .inv {k:Nat // k<=(show LQ' from x.1).length} (fun k=>[(31,.val tI (k.1:Int)),(8,.val tI (sgn (fsq (lrN (show LQ' from x.1)) k.1))),(6,.own 56 0),(56,.any)]) (fun k=>[(56,.row 45 tZ ((List.range k.1).map (lrN (show LQ' from x.1))) 0),(3,.box [⟨tZ,rO (lv (show LQ' from x.1)) (show LQ' from x.1).length⟩]),(7,.box [⟨tZ,gsq (lrN (show LQ' from x.1)) k.1⟩])]) (fun k=>(show LQ' from x.1).length-k.1) ⟨0,by omega⟩ (fun _=>[]),
  .inv {k:Nat // k<=(show LQ' from x.1).length} (fun k=>[(65,.val tI (k.1:Int))]) (fun k=>[(56,.row 45 tZ (prO (lrN (show LQ' from x.1)) (show LQ' from x.1).length k.1) 0),(7,.box [⟨tZ,prG (lrN (show LQ' from x.1)) (show LQ' from x.1).length⟩])]) (fun k=>(show LQ' from x.1).length-k.1) ⟨0,by omega⟩ (fun _=>[])]) (fun x hp=>?_)
 obtain⟨l,u⟩:=x
 change List Rat at l
 refine aU (let A₀:=(rO (lv l) l.length);let A₁:=(prG (lrN l) l.length);(aX 1/\True)/\(asT Int 0=0/\1=rO (lv l) 0/\True)/\∀ (i:{ k:Nat // k<=List.length l }),asT Bool true=true/\ifB (decide (aB (aA i)<aB l.length)) ((0<=aB (aA i)/\aB (aA i)<aB l.length/\True)/\((isz (rO (lv l) (aA i))<=1000000000/\isz (aB (Rat.den (List.getD l (aB (aA i)).toNat 0)))<=1000000000)/\True)/\∃ (i':{ k:Nat // k<=List.length l }),List.length l-aA i'<List.length l-aA i/\IntKind.wrap IntKind.i64 (aB (aA i)+1)=aB (aA i')/\rO (lv l) (aA i)*aB (Rat.den (List.getD l (aB (aA i)).toNat 0))=rO (lv l) (aA i')/\True) ((aX 0/\True)/\(asT Int 0=0/\0=sgn (fsq (lrN l) 0)/\(True/\asT (List Int) (aF Int)=aF Int)/\(asT (List Int) (aF Int)=aF Int/\0=0/\asT Bool true=true)/\rO (lv l) (aA i)=rO (lv l) l.length/\0=gsq (lrN l) 0/\True)/\∀ (i:{ k:Nat // k<=List.length l }),let A₂:=(List.getD l (aB (aA i)).toNat 0);let aJ:=(Int.fdiv A₀ (aB (Rat.den A₂))*Rat.num A₂);let bV:=(List.map (lrN l) (List.range (aA i)));let aT:=(List.length bV+List.length (Int.fdiv A₀ (aB (Rat.den A₂))*Rat.num A₂::aF Int)<=1000000000/\True);let dH:=(gsq (lrN l) (aA i));let dD:=(fsq (lrN l) (aA i));asT Bool true=true/\ifB (decide (aB (aA i)<aB l.length)) ((0<=aB (aA i)/\aB (aA i)<aB l.length/\True)/\((isz A₀<=400000000/\isz (aB (Rat.den A₂))<=400000000/\aB (Rat.den A₂)≠0)/\True)/\((isz (Int.fdiv A₀ (aB (Rat.den A₂)))<=1000000000/\isz (Rat.num A₂)<=1000000000)/\True)/\((isz dH<=1000000000/\isz aJ<=1000000000)/\True)/\ifB (sgn dD==0) ((isz aJ<=1000000000/\True)/\aT/\∃ (i':{ k:Nat // k<=List.length l }),List.length l-aA i'<List.length l-aA i/\IntKind.wrap IntKind.i64 (aB (aA i)+1)=aB (aA i')/\sgn aJ=sgn (fsq (lrN l) (aA i'))/\List.map (lrN l) (List.range (aA i))++Int.fdiv A₀ (aB (Rat.den A₂))*Rat.num A₂::aF Int=List.map (lrN l) (List.range (aA i'))/\rO (lv l) l.length=rO (lv l) l.length/\aB (Int.gcd dH aJ)=gsq (lrN l) (aA i')/\True) (aT/\∃ (i':{ k:Nat // k<=List.length l }),List.length l-aA i'<List.length l-aA i/\IntKind.wrap IntKind.i64 (aB (aA i)+1)=aB (aA i')/\sgn dD=sgn (fsq (lrN l) (aA i'))/\List.map (lrN l) (List.range (aA i))++Int.fdiv A₀ (aB (Rat.den A₂))*Rat.num A₂::aF Int=List.map (lrN l) (List.range (aA i'))/\rO (lv l) l.length=rO (lv l) l.length/\aB (Int.gcd dH aJ)=gsq (lrN l) (aA i')/\True)) (ifB (decide (sgn dD<0)) ((isz dH<=1000000000/\True)/\(asT Int 0=0/\List.map (lrN l) (List.range (aA i))=prO (lrN l) l.length 0/\-gsq (lrN l) (aA i)=prG (lrN l) l.length/\True)/\∀ (i_1:{ k:Nat // k<=List.length l }),let eP:=(prO (lrN l) l.length (aA i_1));let fZ:=(aB (aA i_1)).toNat;asT Bool true=true/\ifB (decide (aB (aA i_1)<aB bV.length)) ((0<=aB (aA i_1)/\aB (aA i_1)<aB eP.length/\Int.toNat (aB (aA i_1))<List.length eP/\(isz (List.getD eP fZ 0)<=400000000/\isz A₁<=400000000/\prG (lrN l) l.length≠0)/\0<=aB (aA i_1)/\aB (aA i_1)<aB eP.length/\Int.toNat (aB (aA i_1))<List.length eP/\True)/\∃ (i':{ k:Nat // k<=List.length l }),List.length l-aA i'<List.length l-aA i_1/\IntKind.wrap IntKind.i64 (aB (aA i_1)+1)=aB (aA i')/\List.set eP fZ (Int.fdiv (List.getD eP fZ 0) A₁)=prO (lrN l) l.length (aA i')/\prG (lrN l) l.length=prG (lrN l) l.length/\True) (True/\prO (lrN l) l.length (aA i_1)=qC l/\True)) ((asT Int 0=0/\List.map (lrN l) (List.range (aA i))=prO (lrN l) l.length 0/\gsq (lrN l) (aA i)=prG (lrN l) l.length/\True)/\∀ (i_1:{ k:Nat // k<=List.length l }),let dU:=(prO (lrN l) l.length (aA i_1));let gX:=(aB (aA i_1)).toNat;asT Bool true=true/\ifB (decide (aB (aA i_1)<aB bV.length)) ((0<=aB (aA i_1)/\aB (aA i_1)<aB dU.length/\Int.toNat (aB (aA i_1))<List.length dU/\(isz (List.getD dU gX 0)<=400000000/\isz A₁<=400000000/\prG (lrN l) l.length≠0)/\0<=aB (aA i_1)/\aB (aA i_1)<aB dU.length/\Int.toNat (aB (aA i_1))<List.length dU/\True)/\∃ (i':{ k:Nat // k<=List.length l }),List.length l-aA i'<List.length l-aA i_1/\IntKind.wrap IntKind.i64 (aB (aA i_1)+1)=aB (aA i')/\List.set dU gX (Int.fdiv (List.getD dU gX 0) A₁)=prO (lrN l) l.length (aA i')/\prG (lrN l) l.length=prG (lrN l) l.length/\True) (True/\prO (lrN l) l.length (aA i_1)=qC l/\True))))) (by kernel_rfl) ?_
 have hZ:(⟨false,0,[],[]⟩:aH)=bF:=rfl
 try simp only[aC,aj,ah]
 try dsimp only[aB,asT,aA,aF,Ty.den,Lf.den] at *
 try simp only[hZ,Int.toNat_natCast,aC,aj,ah,jh,jg,gy,bf]
 try simp only[bT,bP,List.all_cons,List.all_nil,jk,dw,ig,jf,jy,ne_eq,au,bg,dn,eu,jd,oq,jr,ou,jh,jg,iw,bn,List.length_cons,List.length_nil]
 have hp:yQ l:=hp
 obtain⟨hK,j0,hj0,hx0⟩:=hp.at
 have hn:=hp.1
 have hv:∀ j,l.getD j 0=lv l j:=fun _=>rfl
 simp only[hv,ru,bf,b2k,c1c] at *
 have hL:∀ k,k<=l.length->isz (rO (lv l) k)<=64000001:=fun k hk=>iq (a2z hK k hk) (by omega)
 have hd:∀ k,k<l.length->isz ((lv l k).den:Int)<=1000000:=fun k hk=>iq (kJ _) (hK k hk)
 have hm:∀ k,k<l.length->isz (lv l k).num<=1000000:=fun k hk=>iq (oQ _) (hK k hk)
 have hN:∀ j,j<l.length->isz (lrN l j)<=65000001:=fun j hj=>iq (GI (hL _ (ay _)) (TI hj) (hK j hj)) (by omega)
 have hne:prG (lrN l) l.length≠0:=TW hj0 (GK (b4i _ _) (TI hj0) hx0)
 have hG:isz (prG (lrN l) l.length)<=65000001:=a6c hN
 have hg:∀ k,k<=l.length->isz (gsq (lrN l) k)<=65000001:=fun k hk=>IB k fun j hj=>hN j (by omega)
 have hN2:∀ j,(rO (lv l) l.length).fdiv ((lv l j).den:Int)*(lv l j).num=lrN l j:=fun _=>Int.mul_comm _ _
 simp only[hN2]
 refine⟨⟨by omega,by omega⟩,rfl,fun i=>⟨fun h1=>?_,fun h1=>⟨⟨by omega,by omega⟩,⟨rfl,by rw[show i.1=l.length by have:=i.2;omega],rfl⟩,fun i2=>⟨fun h2=>?_,fun h2=>?_⟩⟩⟩⟩
 ·have hi:i.1<l.length:=by omega
  exact⟨⟨by omega,h1⟩,⟨iq (hL _ i.2) (by omega),iq (hd _ hi) (by omega)⟩,⟨i.1+1,by omega⟩,by simp only;omega,by rw[aP (by omega) (by omega)];rfl,rfl⟩
 ·have hi:i2.1<l.length:=by omega
  refine⟨⟨by omega,h2⟩,⟨iq (hL _ (ay _)) (by omega),iq (hd _ hi) (by omega),a0i _⟩,⟨iq (a3x (hL _ (ay _)) (TI hi)) (by omega),iq (hm _ hi) (by omega)⟩,⟨iq (hg _ i2.2) (by omega),iq (hN _ hi) (by omega)⟩,fun h3=>⟨iq (hN _ hi) (by omega),by omega,⟨i2.1+1,by omega⟩,by simp only;omega,by rw[aP (by omega) (by omega)];rfl,?_,?_,rfl⟩,fun h3=>⟨by omega,⟨i2.1+1,by omega⟩,by simp only;omega,by rw[aP (by omega) (by omega)];rfl,?_,?_,rfl⟩⟩
  ·exact vg sgn (jm h3).symm
  ·rw[Bj,List.map_append];rfl
  ·exact vg sgn (ji h3).symm
  ·rw[Bj,List.map_append];rfl
 ·have hi2:i2.1=l.length:=by have:=i2.2;omega
  rw[hi2]
  refine⟨fun h3=>⟨iq (hg _ (ay _)) (by omega),?_⟩,fun h3=>?_⟩
  ·refine⟨⟨a6e,(jm (Dy.1 h3)).symm⟩,fun i3=>⟨fun h4=>?_,fun h4=>?_⟩⟩
   ·have hi3:i3.1<l.length:=by omega
    rw[xO hi3,ji (by omega)]
    refine⟨⟨by omega,by rw[jG];omega,by rw[jG];exact hi3,⟨iq (hN _ hi3) (by omega),iq hG (by omega),hne⟩,by omega,by rw[jG];omega,by rw[jG];exact hi3⟩,⟨i3.1+1,by omega⟩,by simp only;omega,by rw[aP (by omega) (by omega)];rfl,?_⟩
    have:=OZ (N:=lrN l) hi3
    rw[xO hi3,ji (by omega)] at this
    exact this
   ·rw[show i3.1=l.length by have:=i3.2;omega,a6f];exact b1D _ _
  ·refine⟨⟨a6e,(ji (fun e=>h3 (Dy.2 e))).symm⟩,fun i3=>⟨fun h4=>?_,fun h4=>?_⟩⟩
   ·have hi3:i3.1<l.length:=by omega
    rw[xO hi3,ji (by omega)]
    refine⟨⟨by omega,by rw[jG];omega,by rw[jG];exact hi3,⟨iq (hN _ hi3) (by omega),iq hG (by omega),hne⟩,by omega,by rw[jG];omega,by rw[jG];exact hi3⟩,⟨i3.1+1,by omega⟩,by simp only;omega,by rw[aP (by omega) (by omega)];rfl,?_⟩
    have:=OZ (N:=lrN l) hi3
    rw[xO hi3,ji (by omega)] at this
    exact this
   ·rw[show i3.1=l.length by have:=i3.2;omega,a6f];exact b1D _ _
theorem AO (l:LQ'):(qC l).length=l.length:=by unfold qC b1C;simp
theorem a6g {l:LQ'} (h:yQ l):∀ n ∈ qC l,isz n<=65000001:=fun n hn=>by
 obtain⟨hK,j0,hj0,hx0⟩:=h.at
 have h64:=h.1
 have hN:∀ j,j<l.length->isz (lcN l j)<=65000001:=fun j hj=>iq (GI (iq (IL hK _ (ay _)) (show _<=64000001 by omega)) (oL hj) (hK j hj)) (by omega)
 obtain⟨j,hj,rfl⟩:=uw.1 hn
 have hj:=vw.1 hj
 exact a6d hj (TW hj0 (GK (IQ _ _) (oL hj0) hx0)) (hN j hj)
theorem whT {P:List Int} {i:Nat} (hi:i<P.length):(P.map fun n=>aO n).take i++[aO (P.getD i 0)]=(P.map fun n=>aO n).take (i+1):=by
 rw[Ai,xk,jc hi,iy,jc hi];rfl
theorem ND (n:Int):Rat.divInt n 1=aO n:=by
 rw[show (1:Int)=((1:Nat):Int) from rfl,Rat.divInt_ofNat];exact Rat.mkRat_one n
noncomputable def c2g:Ctr:=⟨[tZ],[tQ],fun x=>isz x.1<=390000000,fun x=>(aO x.1,())⟩
theorem b1F:aI Tryz.prog 150 c2g:=by
 refine aK ((nil0.ad ZK).ad a0r) ⟨[2,3],[],[]⟩ Tryz.func150 rfl (by decide) (fun x=>[]) (fun x hp=>?_)
 obtain⟨n,u⟩:=x
 change Int at n
 refine aU ((aX 1/\(isz n<=1000000000/\isz 1<=1000000000)/\True)/\(asT Bool true=true/\True)/\Rat.divInt n 1=aO n/\True) (by kernel_rfl) ?_
 have hZ:(⟨false,0,[],[]⟩:aH)=bF:=rfl
 try simp only[aC,aj,ah]
 try dsimp only[aB,asT,aA,aF,Ty.den,Lf.den] at *
 try simp only[hZ,Int.toNat_natCast,aC,aj,ah,jh,jg,gy,bf]
 try simp only[bT,bP,List.all_cons,List.all_nil,jk,dw,ig,jf,jy,ne_eq,au,bg,dn,eu,jd,oq,jr,ou,jh,jg,iw,bn,List.length_cons,List.length_nil]
 have hp:isz n<=390000000:=hp
 exact⟨⟨⟨by omega,by omega⟩,by omega,by rw[show isz 1=1 by decide +kernel];omega⟩,(ND n)⟩
theorem i9T {l:LQ'} (h:l.length=9) {i:Nat} (h9:i<=9) (hi:¬ (i:Int)<((qC l).length:Int)):(((qC l).map fun n=>aO n).take i)=(qC l).map fun n=>aO n:=jv (by rw[ru];omega)
def KN {α:Type} (l:List α):List (List α):=[l.take 3,(l.take 6).drop 3,l.drop 6]
def uQ (l:LQ'):MQ:=KN ((qC l).map fun n=>aO n)
noncomputable def c1z:Ctr:=⟨[.list tQ],[tM],fun x=>yQ x.1/\(show LQ' from x.1).length=9,fun x=>(uQ x.1,())⟩
theorem a8N:aI Tryz.prog 62 c1z:=by
 refine aK ((nil0.ad b4R).ad b1F) ⟨[5],[],[]⟩ Tryz.func62 rfl (by decide) (fun x=>[.inv {k:Nat // k<=9} (fun k=>[(9,.val tI (k.1:Int)),(3,.own 16 0),(16,.any)]) (fun k=>[(16,.row 47 tQ (((qC (show LQ' from x.1)).map fun n=>aO n).take k.1) 0)]) (fun k=>9-k.1) ⟨0,by omega⟩ (fun _=>[])]) (fun x hp=>?_)
 obtain⟨l,u⟩:=x
 change List Rat at l
 refine aU (let A₀:=(List.map (fun(n:Int)=>aO n) (qC l));(yQ l/\True)/\(asT Int 0=0/\(True/\asT (List Rat) (aF Rat)=aF Rat)/\(asT (List Rat) (aF Rat)=aF Rat/\0=0/\asT Bool true=true)/\True)/\∀ (i:{ k:Nat // k<=9 }),let A₁:=(List.take (aA i) A₀);let A₂:=(List.getD (qC l) (aB (aA i)).toNat 0);asT Bool true=true/\ifB (decide (aB (aA i)<aB (qC l).length)) ((0<=aB (aA i)/\aB (aA i)<aB (qC l).length/\True)/\(isz A₂<=390000000/\List.length A₁+List.length (aO A₂::aF Rat)<=1000000000/\True)/\∃ (i':{ k:Nat // k<=9 }),9-aA i'<9-aA i/\IntKind.wrap IntKind.i64 (aB (aA i)+1)=aB (aA i')/\List.take (aA i) A₀++aO A₂::aF Rat=List.take (aA i') A₀/\True) ((asT Int 0<=0/\asT Int 0<=3/\asT Int 3<=3/\3<=aB A₁.length/\asT Int 0<=3/\asT Int 3<=6/\asT Int 6<=6/\6<=aB A₁.length/\asT Int 0<=6/\6<=aB A₁.length/\aB A₁.length<=aB A₁.length/\True)/\True/\List.drop 0 (List.take 3 A₁)::List.drop 3 (List.take 6 A₁)::List.drop 6 (List.take (aB A₁.length).toNat A₁)::aF (List Rat)=uQ l/\True)) (by kernel_rfl) ?_
 have hZ:(⟨false,0,[],[]⟩:aH)=bF:=rfl
 try simp only[aC,aj,ah]
 try dsimp only[aB,asT,aA,aF,Ty.den,Lf.den] at *
 try simp only[hZ,Int.toNat_natCast,aC,aj,ah,jh,jg,gy,bf]
 try simp only[bT,bP,List.all_cons,List.all_nil,jk,dw,ig,jf,jy,ne_eq,au,bg,dn,eu,jd,oq,jr,ou,jh,jg,iw,bn,List.length_cons,List.length_nil]
 obtain⟨hp,h9⟩:yQ l/\l.length=9:=hp
 have hl:=AO l
 refine⟨hp,fun i=>⟨fun h1=>⟨⟨by omega,h1⟩,⟨iq (bU (a6g hp) (by omega)) (by omega),by rw[ni];omega⟩,⟨i.1+1,by omega⟩,by simp only;omega,by rw[aP (by omega) (by omega)];rfl,whT (by omega)⟩,fun h1=>?_⟩⟩
 rw[i9T h9 i.2 h1,ru,hl,h9]
 refine⟨by omega,?_⟩
 unfold uQ KN
 rw[List.drop_zero,jv (i:=9) (by rw[ru];omega)]
noncomputable def c2i:Ctr:=⟨[.list tQ],[tM],fun x=>(show LQ' from x.1).length=9,fun x=>(KN (show LQ' from x.1),())⟩
theorem b2r:aI Tryz.prog 120 c2i:=by
 refine aK Lib.nil ⟨[],[],[]⟩ Tryz.func120 rfl (by decide) (fun x=>[]) (fun x hp=>?_)
 obtain⟨l,u⟩:=x
 change List Rat at l
 refine aU ((asT Int 0<=0/\asT Int 0<=3/\asT Int 3<=3/\3<=aB l.length/\asT Int 0<=3/\asT Int 3<=6/\asT Int 6<=6/\6<=aB l.length/\asT Int 0<=6/\asT Int 6<=9/\asT Int 9<=9/\9<=aB l.length/\True)/\True/\List.drop 0 (List.take 3 l)::List.drop 3 (List.take 6 l)::List.drop 6 (List.take 9 l)::aF (List Rat)=KN l/\True) (by kernel_rfl) ?_
 have hZ:(⟨false,0,[],[]⟩:aH)=bF:=rfl
 try simp only[aC,aj,ah]
 try dsimp only[aB,asT,aA,aF,Ty.den,Lf.den] at *
 try simp only[hZ,Int.toNat_natCast,aC,aj,ah,jh,jg,gy,bf]
 try simp only[bT,bP,List.all_cons,List.all_nil,jk,dw,ig,jf,jy,ne_eq,au,bg,dn,eu,jd,oq,jr,ou,jh,jg,iw,bn,List.length_cons,List.length_nil]
 have hp:l.length=9:=hp
 refine⟨by omega,?_⟩
 unfold KN
 rw[List.drop_zero,jv (i:=9) (by omega)]
noncomputable def c1B:Ctr:=⟨[tM],[tM],fun x=>m33 1000000 x.1/\∃ q ∈ (show MQ from x.1).flatten,q≠0,fun x=>(uQ (show MQ from x.1).flatten,())⟩
theorem a8R:aI Tryz.prog 39 c1B:=by
 refine aK ((((nil0.ad a6K).ad b0W).ad a9A).ad b2r) ⟨[5],[],[(18,tQ)]⟩ Tryz.func39 rfl (by decide) (fun x=>[.inv {k:Nat // k<=9} (fun k=>[(10,.val tI (k.1:Int)),(3,.own 18 0),(18,.any)]) (fun k=>[(18,.row 47 tQ (((qC (show MQ from x.1).flatten).map fun n=>aO n).take k.1) 0)]) (fun k=>9-k.1) ⟨0,by omega⟩ (fun _=>[])]) (fun x hp=>?_)
 obtain⟨f,u⟩:=x
 change List (List Rat) at f
 refine aU (let A₁:=(fun(x:Ty.den (Ty.pair (Ty.lf Lf.big) (Ty.pair (Ty.lf Lf.big) Ty.unit)))=>Rat.divInt (asT Int x.1) (asT Int x.2.1));let A₂:=(qC (List.flatten f));let A₀:=(List.map (fun(n:Int)=>aO n) A₂);((List.length f<=1000/\∀ (r:List Rat),r ∈ f->List.length r<=1000)/\yQ (List.flatten f)/\True)/\(asT Int 0=0/\(True/\asT (List Rat) (aF Rat)=aF Rat)/\(asT (List Rat) (aF Rat)=aF Rat/\0=0/\asT Bool true=true)/\True)/\∀ (i:{ k:Nat // k<=9 }),let aJ:=(List.take (aA i) A₀);let aT:=((List.getD A₂ (aB (aA i)).toNat 0,1,())::aF (Int × Int × PUnit));asT Bool true=true/\ifB (decide (aB (aA i)<aB A₂.length)) ((0<=aB (aA i)/\aB (aA i)<aB A₂.length/\True)/\(aX 1/\List.length aJ+List.length (List.map A₁ aT)<=1000000000/\((asT Int 0<1/\Int.gcd (List.getD A₂ (aB (aA i)).toNat 0) 1=1/\True)/\True)/\True)/\∃ (i':{ k:Nat // k<=9 }),9-aA i'<9-aA i/\IntKind.wrap IntKind.i64 (aB (aA i)+1)=aB (aA i')/\List.take (aA i) A₀++List.map A₁ aT=List.take (aA i') A₀/\True) ((List.length aJ=9/\True)/\True/\List.take 3 aJ::List.drop 3 (List.take 6 aJ)::List.drop 6 aJ::aF (List Rat)=uQ (List.flatten f)/\True)) (by kernel_rfl) ?_
 have hZ:(⟨false,0,[],[]⟩:aH)=bF:=rfl
 try simp only[aC,aj,ah]
 try dsimp only[aB,asT,aA,aF,Ty.den,Lf.den] at *
 try simp only[hZ,Int.toNat_natCast,aC,aj,ah,jh,jg,gy,bf]
 try simp only[bT,bP,List.all_cons,List.all_nil,jk,dw,ig,jf,jy,ne_eq,au,bg,dn,eu,jd,oq,jr,ou,jh,jg,iw,bn,List.length_cons,List.length_nil]
 obtain⟨hf,hq⟩:m33 1000000 f/\∃ q ∈ f.flatten,q≠0:=hp
 have h9:=hf.flat.1
 have hp:yQ f.flatten:=⟨by omega,hf.flat.2,hq⟩
 have hl:=AO f.flatten
 have h3:=hf.1.len
 refine⟨⟨⟨by omega,fun r hr=>by have:=hf.1.2.1 r hr;omega⟩,hp⟩,fun i=>⟨fun h1=>⟨⟨by omega,h1⟩,⟨⟨by omega,by omega⟩,by rw[ni];show _+1<=_;omega,by omega,Int.gcd_one_right _⟩,⟨i.1+1,by omega⟩,by simp only;omega,by rw[aP (by omega) (by omega)];rfl,?_⟩,fun h1=>?_⟩⟩
 ·show _++[Rat.divInt _ 1]=_
  rw[ND]
  exact whT (by omega)
 ·rw[i9T h9 i.2 h1]
  refine⟨by rw[ru,hl,h9],rfl⟩
end Go.Proofs.YtbkocjmmbkifjaaGreat
