/-
  Lemmas for the theorem veight28_holds, part 26 of 32.
-/
import Derived.Test.YtbkocjmmbkifjaaGreatQg25
namespace Go.Proofs.YtbkocjmmbkifjaaGreat
open Go Go.RowKit
theorem Bo:type_of% @Int.mul_fdiv_cancel_left:=@Int.mul_fdiv_cancel_left
set_option linter.unusedSimpArgs false
set_option linter.unusedVariables false
def gsq (xs:Nat->Int):Nat->Int
 | 0=>0
 | k+1=>((Int.gcd (gsq xs k) (xs k):Nat):Int)
def fsq (xs:Nat->Int):Nat->Int
 | 0=>0
 | k+1=>if fsq xs k=0 then xs k else fsq xs k
theorem EM {xs:Nat->Int} {K:Nat}:∀ k,(∀ j,j<k->isz (xs j)<=K)->isz (gsq xs k)<=K
 | 0,_=>by show isz 0<=K;rw[PI];omega
 | k+1,h=>by
  have ih:=EM k (fun j hj=>h j (by omega))
  show isz ((Int.gcd (gsq xs k) (xs k):Nat):Int)<=K
  by_cases hx:xs k=0
  ·rw[hx,Int.gcd_zero_right]
   have:isz (((gsq xs k).natAbs:Nat):Int)=isz (gsq xs k):=by unfold isz;simp
   omega
  ·exact kF hx (h k (by omega))
theorem a7K {xs:Nat->Int} {j:Nat} (hj:xs j≠0):∀ k,j<k->gsq xs k≠0
 | 0,h=>by omega
 | k+1,h=>by
  show ((Int.gcd (gsq xs k) (xs k):Nat):Int)≠0
  intro e
  have e':Int.gcd (gsq xs k) (xs k)=0:=by omega
  rw[Int.gcd_eq_zero_iff] at e'
  by_cases hk:j=k
  ·subst hk;exact hj e'.2
  ·exact a7K hj k (by omega) e'.1
theorem XI {xs:Nat->Int}:∀ k j,j<k->gsq xs k ∣ xs j
 | 0,j,h=>by omega
 | k+1,j,h=>by
  show ((Int.gcd (gsq xs k) (xs k):Nat):Int) ∣ xs j
  by_cases e:j=k
  ·subst e;exact Int.gcd_dvd_right ..
  ·exact Int.dvd_trans (Int.gcd_dvd_left ..) (XI k j (by omega))
theorem XP {x y:Int} (hy:y≠0) (h:y ∣ x):isz (x.fdiv y)<=isz x:=by
 obtain⟨t,rfl⟩:=h
 rw[Bo _ hy]
 unfold isz
 rw[Int.natAbs_mul]
 exact yM (Nat.le_mul_of_pos_left _ (by omega))
def kG (q:Nat->Rat):Nat->Int
 | 0=>1
 | k+1=>kG q k*((q k).den:Int).fdiv ((Int.gcd (kG q k) ((q k).den:Int):Nat):Int)
def qG (q:Nat->Rat):Nat->Int
 | 0=>1
 | k+1=>qG q k*((q k).den:Int)
def a0E (q:Nat->Rat):Nat->Nat
 | 0=>1
 | k+1=>Nat.lcm (a0E q k) (q k).den
def NU (D:Int) (q:Nat->Rat) (j:Nat):Int:=(q j).num*D.fdiv ((q j).den:Int)
def prG (xs:Nat->Int) (n:Nat):Int:=if fsq xs n<0 then -gsq xs n else gsq xs n
def prN (xs:Nat->Int) (n j:Nat):Int:=(xs j).fdiv (prG xs n)
theorem LY (q:Nat->Rat):∀ k,kG q k=(a0E q k:Nat)
 | 0=>rfl
 | k+1=>by
  show kG q k*((q k).den:Int).fdiv ((Int.gcd (kG q k) ((q k).den:Int):Nat):Int)=((Nat.lcm (a0E q k) (q k).den:Nat):Int)
  rw[LY q k,Int.gcd_natCast_natCast,<-Int.ofNat_fdiv,<-Int.natCast_mul,<-Nat.mul_div_assoc _ (Nat.gcd_dvd_right _ _)];rfl
theorem PO (q:Nat->Rat):∀ k,0<a0E q k
 | 0=>Nat.one_pos
 | k+1=>Nat.lcm_pos (PO q k) (q k).den_pos
theorem PN {q:Nat->Rat}:∀ k j,j<k->(q j).den ∣ a0E q k
 | 0,j,h=>by omega
 | k+1,j,h=>by
  show (q j).den ∣ Nat.lcm (a0E q k) (q k).den
  by_cases e:j=k
  ·subst e;exact Nat.dvd_lcm_right _ _
  ·exact Nat.dvd_trans (PN k j (by omega)) (Nat.dvd_lcm_left _ _)
theorem a0F {q:Nat->Rat} {D:Nat}:∀ k,(∀ j,j<k->(q j).den ∣ D)->a0E q k ∣ D
 | 0,_=>Nat.one_dvd _
 | k+1,h=>Nat.lcm_dvd (a0F k fun j hj=>h j (by omega)) (h k (by omega))
theorem EY (q:Nat->Rat) (k:Nat):kG q k≠0:=by rw[LY];have:=PO q k;omega
theorem nO {q:Nat->Rat} {k j:Nat} (h:j<k):((q j).den:Int) ∣ kG q k:=by rw[LY];exact Int.natCast_dvd_natCast.2 (PN k j h)
def mulN (q:Nat->Rat):Nat->Nat
 | 0=>1
 | k+1=>mulN q k*(q k).den
theorem MH (q:Nat->Rat):∀ k,qG q k=(mulN q k:Nat)
 | 0=>rfl
 | k+1=>by
  show qG q k*((q k).den:Int)=((mulN q k*(q k).den:Nat):Int)
  rw[MH q k,Int.natCast_mul]
theorem QJ (q:Nat->Rat):∀ k,0<mulN q k
 | 0=>Nat.one_pos
 | k+1=>Nat.mul_pos (QJ q k) (q k).den_pos
theorem QI {q:Nat->Rat}:∀ k j,j<k->(q j).den ∣ mulN q k
 | 0,j,h=>by omega
 | k+1,j,h=>by
  show (q j).den ∣ mulN q k*(q k).den
  by_cases e:j=k
  ·subst e;exact Nat.dvd_mul_left _ _
  ·exact Nat.dvd_trans (QI k j (by omega)) (Nat.dvd_mul_right _ _)
theorem b2g (q:Nat->Rat) (k:Nat):qG q k≠0:=by rw[MH];have:=QJ q k;omega
theorem QH {q:Nat->Rat} {k j:Nat} (h:j<k):((q j).den:Int) ∣ qG q k:=by rw[MH];exact Int.natCast_dvd_natCast.2 (QI k j h)
theorem a0N {q:Nat->Rat} {K n:Nat} (h:∀ k,k<n->rsz (q k)<=K):∀ k,k<=n->isz (qG q k)<=k*K+1
 | 0,_=>by show isz 1<=_;rw[show isz 1=1 by decide +kernel];omega
 | k+1,hk=>by
  have ih:=a0N h k (by omega)
  have m:=fG (qG q k) ((q k).den:Int)
  have d:=jY (q k)
  have:=h k (by omega)
  show isz (qG q k*((q k).den:Int))<=_
  rw[yg]
  omega
theorem b3V (q:Nat->Rat) (k:Nat):((Int.gcd (kG q k) ((q k).den:Int):Nat):Int)≠0:=fun e=>by
 have e:Int.gcd (kG q k) ((q k).den:Int)=0:=by omega
 exact EY q k (Int.gcd_eq_zero_iff.1 e).1
theorem b3W {q:Nat->Rat} {K k:Nat} (h:rsz (q k)<=K):isz (((q k).den:Int).fdiv ((Int.gcd (kG q k) ((q k).den:Int):Nat):Int))<=K :=
 jc (XP (b3V q k) (Int.gcd_dvd_right ..)) (jc (jY _) h)
theorem EX {q:Nat->Rat} {K n:Nat} (h:∀ k,k<n->rsz (q k)<=K):∀ k,k<=n->isz (kG q k)<=k*K+1
 | 0,_=>by show isz 1<=_;rw[show isz 1=1 by decide +kernel];omega
 | k+1,hk=>by
  have ih:=EX h k (by omega)
  have m:=fG (kG q k) (((q k).den:Int).fdiv ((Int.gcd (kG q k) ((q k).den:Int):Nat):Int))
  have d:=b3W (h k (by omega))
  show isz (kG q k*((q k).den:Int).fdiv ((Int.gcd (kG q k) ((q k).den:Int):Nat):Int))<=_
  rw[yg]
  omega
theorem a1J {D:Int} {q:Nat->Rat} {j C:Nat} (hD:isz D<=C) (h:((q j).den:Int) ∣ D):isz (D.fdiv ((q j).den:Int))<=C :=
 jc (XP (by have:=(q j).den_nz;omega) h) hD
theorem DW {D:Int} {q:Nat->Rat} {j K C:Nat} (hD:isz D<=C) (h:((q j).den:Int) ∣ D) (hK:rsz (q j)<=K):isz (NU D q j)<=K+C:=by
 have m:=fG (q j).num (D.fdiv ((q j).den:Int))
 have a:=lC (q j)
 have b:=a1J hD h
 unfold NU;omega
theorem DX {D:Int} {q:Nat->Rat} {j:Nat} (h0:D≠0) (h:((q j).den:Int) ∣ D) (hq:q j≠0):NU D q j≠0:=by
 intro e
 unfold NU at e
 obtain⟨t,rfl⟩:=h
 have hd:((q j).den:Int)≠0:=by have:=(q j).den_nz;omega
 rw[Bo _ hd] at e
 rcases Int.mul_eq_zero.1 e with e|e
 ·exact hq (Rat.num_eq_zero.1 e)
 ·exact h0 (by rw[e,Int.mul_zero])
theorem a4j {xs:Nat->Int} {n j:Nat} (hj:j<n):prG xs n ∣ xs j:=by
 unfold prG
 split
 ·exact Int.neg_dvd.2 (XI n j hj)
 ·exact XI n j hj
theorem QS {xs:Nat->Int} {n j:Nat} (hj:j<n) (h:xs j≠0):prG xs n≠0:=by
 have:=a7K h n hj
 unfold prG
 split<;>omega
theorem a4k {xs:Nat->Int} {n K:Nat} (h:∀ j,j<n->isz (xs j)<=K):isz (prG xs n)<=K:=by
 unfold prG
 split
 ·rw[jK];exact EM n h
 ·exact EM n h
theorem a4l {xs:Nat->Int} {n j K:Nat} (hj:j<n) (h0:prG xs n≠0) (h:isz (xs j)<=K):isz (prN xs n j)<=K:=jc (XP h0 (a4j hj)) h
theorem TW {t:Nat} {xs ys:Nat->Int} {n:Nat} (h:∀ j,j<n->ys j=(t:Int)*xs j):∀ k,k<=n->gsq ys k=(t:Int)*gsq xs k
 | 0,_=>by show (0:Int)=(t:Int)*0;rw[Int.mul_zero]
 | k+1,hk=>by
  show ((Int.gcd (gsq ys k) (ys k):Nat):Int)=(t:Int)*((Int.gcd (gsq xs k) (xs k):Nat):Int)
  rw[TW h k (by omega),h k (by omega),Int.gcd_mul_left,Int.natAbs_natCast,Int.natCast_mul]
theorem TS {t:Nat} (ht:0<t) {xs ys:Nat->Int} {n:Nat} (h:∀ j,j<n->ys j=(t:Int)*xs j):∀ k,k<=n->fsq ys k=(t:Int)*fsq xs k
 | 0,_=>by show (0:Int)=(t:Int)*0;rw[Int.mul_zero]
 | k+1,hk=>by
  show (if fsq ys k=0 then ys k else fsq ys k)=(t:Int)*(if fsq xs k=0 then xs k else fsq xs k)
  rw[TS ht h k (by omega),h k (by omega)]
  by_cases e:fsq xs k=0
  ·rw[jl e,jl (by rw[e,Int.mul_zero])]
  ·rw[jd e,jd (fun e2=>by rcases Int.mul_eq_zero.1 e2 with e2|e2<;>omega)]
theorem a5W {t:Nat} (ht:0<t) {xs ys:Nat->Int} {n j:Nat} (h:∀ j,j<n->ys j=(t:Int)*xs j) (hj:j<n):prN ys n j=prN xs n j:=by
 have ht':(0:Int)<(t:Int):=by omega
 have e:prG ys n=(t:Int)*prG xs n:=by
  unfold prG
  rw[TW h n (ay n),TS ht h n (ay n)]
  by_cases e:fsq xs n<0
  ·rw[jl e,jl (Int.mul_neg_of_pos_of_neg ht' e),Int.mul_neg]
  ·rw[jd e,jd (fun e2=>by have:=Int.mul_nonneg (Int.le_of_lt ht') (show 0<=fsq xs n by omega);omega)]
 unfold prN
 rw[e,h j hj,Int.mul_fdiv_mul_of_pos _ _ ht']
def a9z (q:Nat->Rat) (n:Nat):List Int:=(List.range n).map (prN (NU (kG q n) q) n)
def c0G (q:Nat->Rat) (n:Nat):List Int:=(List.range n).map (prN (NU (qG q n) q) n)
theorem a9A (q:Nat->Rat) (n:Nat):c0G q n=a9z q n:=by
 obtain⟨t,ht⟩:a0E q n ∣ mulN q n:=a0F n fun j hj=>QI n j hj
 have h0:=PO q n
 have h1:=QJ q n
 have t0:0<t:=Nat.pos_of_ne_zero fun e=>by rw[e,Nat.mul_zero] at ht;omega
 unfold c0G a9z
 refine ny fun j hj=>a5W t0 (fun k hk=>?_) (uj.1 hj)
 unfold NU
 obtain⟨s,hs⟩:=PN (q:=q) n k hk
 have hd:((q k).den:Int)≠0:=by have:=(q k).den_nz;omega
 rw[MH,LY,ht,hs,Int.natCast_mul,Int.natCast_mul,Int.mul_assoc,Bo _ hd,Bo _ hd]
 grind
set_option maxRecDepth 100000
set_option maxHeartbeats 1000000
def BF (l:LQ'):Prop:=l.length<=64/\(∀ q ∈ l,rsz q<=1000000)/\∃ q ∈ l,q≠0
def lcN (l:LQ') (j:Nat):Int:=NU (kG (lv l) l.length) (lv l) j
def nT (l:LQ'):List Int:=a9z (lv l) l.length
noncomputable def b9x:Ctr:=⟨[.list tQ],[.list tZ],fun x=>BF x.1,fun x=>(nT x.1,())⟩
def prO (N:Nat->Int) (n k:Nat):List Int:=(List.range n).map fun j=>if j<k then prN N n j else N j
theorem jB {N:Nat->Int} {n k:Nat}:(prO N n k).length=n:=by unfold prO;simp
theorem vY {N:Nat->Int} {n k j:Nat} (h:j<n):(prO N n k).getD j 0=if j<k then prN N n j else N j:=by
 unfold prO
 rw[bn,uf,Ap h];rfl
theorem a4m {N:Nat->Int} {n:Nat}:(List.range n).map N=prO N n 0:=ny fun j _=>(jd (by omega)).symm
theorem a4n {N:Nat->Int} {n:Nat}:prO N n n=(List.range n).map (prN N n):=ny fun j hj=>jl (uj.1 hj)
theorem MI {N:Nat->Int} {n k:Nat} (h:k<n):(prO N n k).set k (((prO N n k).getD k 0).fdiv (prG N n))=prO N n (k+1):=by
 rw[vY h,jd (by omega)]
 apply Dl
 intro j
 unfold prO
 rw[List.getElem?_set]
 by_cases e:k=j
 ·subst e
  rw[jl rfl,uf,Ap h,jl (by simpa using h)]
  show some _=some (if k<k+1 then prN N n k else N k)
  rw[jl (by omega)];rfl
 ·rw[jd e,uf,uf]
  by_cases hj:j<n
  ·rw[Ap hj]
   show some (if j<k then prN N n j else N j)=some (if j<k+1 then prN N n j else N j)
   by_cases h2:j<k
   ·rw[jl h2,jl (by omega)]
   ·rw[jd h2,jd (by omega)]
  ·rw[qw (by simpa using hj)];rfl
theorem BF.at {l:LQ'} (h:BF l):(∀ k,k<l.length->rsz (lv l k)<=1000000)/\∃ j,j<l.length/\lv l j≠0:=by
 refine⟨fun k hk=>dB h.2.1 hk,?_⟩
 obtain⟨q,hq,hz⟩:=h.2.2
 obtain⟨j,hj,rfl⟩:=Cm hq
 exact⟨j,hj,by show l.getD j 0≠0;rw[bn,dw hj];exact hz⟩
theorem b0m {x:Int}:(x.sign=0)=(x=0):=propext Ef
theorem a2I {x:Int}:(sgn x=0)=(x=0):=propext Ef
theorem XA (q:Rat):((q.den:Nat):Int)≠0:=by have:=q.den_nz;omega
theorem b2A:aI Tryz.prog 149 b9x:=by
 refine aO ((((((nil0.ad VZ).ad EP).ad uU).ad yE).ad pY).ad OY) ⟨[3,5,6,7,8,11,12,14,15,16,18,20],[],[]⟩ Tryz.func149 rfl (by decide) (fun x=>[.inv {k:Nat // k<=(show LQ' from x.1).length} (fun k=>[(24,.val tI (k.1:Int))]) (fun k=>[(3,.box [⟨tZ,kG (lv (show LQ' from x.1)) k.1⟩])]) (fun k=>(show LQ' from x.1).length-k.1) ⟨0,by omega⟩ (fun _=>[]),
  .inv {k:Nat // k<=(show LQ' from x.1).length} (fun k=>[(46,.val tI (k.1:Int)),(10,.own 64 0),(64,.any)]) (fun k=>[(64,.row 45 tZ ((List.range k.1).map (lcN (show LQ' from x.1))) 0),(3,.box [⟨tZ,kG (lv (show LQ' from x.1)) (show LQ' from x.1).length⟩]),(11,.box [⟨tZ,gsq (lcN (show LQ' from x.1)) k.1⟩]),(12,.box [⟨tZ,fsq (lcN (show LQ' from x.1)) k.1⟩])]) (fun k=>(show LQ' from x.1).length-k.1) ⟨0,by omega⟩ (fun _=>[]),
  .inv {k:Nat // k<=(show LQ' from x.1).length} (fun k=>[(81,.val tI (k.1:Int))]) (fun k=>[(64,.row 45 tZ (prO (lcN (show LQ' from x.1)) (show LQ' from x.1).length k.1) 0),(11,.box [⟨tZ,prG (lcN (show LQ' from x.1)) (show LQ' from x.1).length⟩])]) (fun k=>(show LQ' from x.1).length-k.1) ⟨0,by omega⟩ (fun _=>[])]) (fun x hp=>?_)
 obtain⟨l,u⟩:=x
 change List Rat at l
 refine aY (let A₀:=(kG (lv l) l.length);let A₁:=(prG (lcN l) l.length);(dU 1/\True)/\(asT Int 0=0/\1=kG (lv l) 0/\True)/\∀ (i:{ k:Nat // k<=List.length l }),let aW:=(kG (lv l) (aA i));let A₂:=(Int.gcd aW (aB (Rat.den (List.getD l (aB (aA i)).toNat 0))));asT Bool true=true/\ifB (decide (aB (aA i)<aB l.length)) ((0<=aB (aA i)/\aB (aA i)<aB l.length/\True)/\((isz aW<=1000000000/\isz (aB (Rat.den (List.getD l (aB (aA i)).toNat 0)))<=1000000000)/\True)/\((isz (aB (Rat.den (List.getD l (aB (aA i)).toNat 0)))<=1000000000/\isz (aB A₂)<=1000000000/\aB A₂≠0)/\True)/\((isz aW<=1000000000/\isz (Int.fdiv (aB (Rat.den (List.getD l (aB (aA i)).toNat 0))) (aB A₂))<=1000000000)/\True)/\∃ (i':{ k:Nat // k<=List.length l }),List.length l-aA i'<List.length l-aA i/\IntKind.wrap IntKind.i64 (aB (aA i)+1)=aB (aA i')/\kG (lv l) (aA i)*Int.fdiv (aB (Rat.den (List.getD l (aB (aA i)).toNat 0))) (aB A₂)=kG (lv l) (aA i')/\True) ((asT Int 0=0/\(True/\asT (List Int) (aG Int)=aG Int)/\(asT (List Int) (aG Int)=aG Int/\0=0/\asT Bool true=true)/\kG (lv l) (aA i)=kG (lv l) l.length/\0=gsq (lcN l) 0/\0=fsq (lcN l) 0/\True)/\∀ (i:{ k:Nat // k<=List.length l }),let bW:=(List.getD l (aB (aA i)).toNat 0);let eU:=(Rat.num bW*Int.fdiv A₀ (aB (Rat.den bW)));let gY:=(List.map (lcN l) (List.range (aA i)));let dG:=(gsq (lcN l) (aA i));asT Bool true=true/\ifB (decide (aB (aA i)<aB l.length)) ((0<=aB (aA i)/\aB (aA i)<aB l.length/\True)/\((isz A₀<=1000000000/\isz (aB (Rat.den bW))<=1000000000/\aB (Rat.den bW)≠0)/\True)/\((isz (Rat.num bW)<=1000000000/\isz (Int.fdiv A₀ (aB (Rat.den bW)))<=1000000000)/\True)/\(List.length gY+List.length (Rat.num bW*Int.fdiv A₀ (aB (Rat.den bW))::aG Int)<=1000000000/\True)/\((isz dG<=1000000000/\isz eU<=1000000000)/\True)/\(True/\True)/\ifB (Int.sign (fsq (lcN l) (aA i))==0) (∃ (i':{ k:Nat // k<=List.length l }),List.length l-aA i'<List.length l-aA i/\IntKind.wrap IntKind.i64 (aB (aA i)+1)=aB (aA i')/\List.map (lcN l) (List.range (aA i))++Rat.num bW*Int.fdiv A₀ (aB (Rat.den bW))::aG Int=List.map (lcN l) (List.range (aA i'))/\kG (lv l) l.length=kG (lv l) l.length/\aB (Int.gcd dG eU)=gsq (lcN l) (aA i')/\Rat.num bW*Int.fdiv A₀ (aB (Rat.den bW))=fsq (lcN l) (aA i')/\True) (∃ (i':{ k:Nat // k<=List.length l }),List.length l-aA i'<List.length l-aA i/\IntKind.wrap IntKind.i64 (aB (aA i)+1)=aB (aA i')/\List.map (lcN l) (List.range (aA i))++Rat.num bW*Int.fdiv A₀ (aB (Rat.den bW))::aG Int=List.map (lcN l) (List.range (aA i'))/\kG (lv l) l.length=kG (lv l) l.length/\aB (Int.gcd dG eU)=gsq (lcN l) (aA i')/\fsq (lcN l) (aA i)=fsq (lcN l) (aA i')/\True)) ((True/\True)/\ifB (decide (Int.sign (fsq (lcN l) (aA i))<0)) ((isz dG<=1000000000/\True)/\(asT Int 0=0/\List.map (lcN l) (List.range (aA i))=prO (lcN l) l.length 0/\-gsq (lcN l) (aA i)=prG (lcN l) l.length/\True)/\∀ (i_1:{ k:Nat // k<=List.length l }),let gJ:=(prO (lcN l) l.length (aA i_1));let fJ:=(aB (aA i_1)).toNat;asT Bool true=true/\ifB (decide (aB (aA i_1)<aB gY.length)) ((0<=aB (aA i_1)/\aB (aA i_1)<aB gJ.length/\Int.toNat (aB (aA i_1))<List.length gJ/\True)/\((isz (List.getD gJ fJ 0)<=1000000000/\isz A₁<=1000000000/\prG (lcN l) l.length≠0)/\0<=aB (aA i_1)/\aB (aA i_1)<aB gJ.length/\Int.toNat (aB (aA i_1))<List.length gJ/\True)/\∃ (i':{ k:Nat // k<=List.length l }),List.length l-aA i'<List.length l-aA i_1/\IntKind.wrap IntKind.i64 (aB (aA i_1)+1)=aB (aA i')/\List.set gJ fJ (Int.fdiv (List.getD gJ fJ 0) A₁)=prO (lcN l) l.length (aA i')/\prG (lcN l) l.length=prG (lcN l) l.length/\True) (True/\prO (lcN l) l.length (aA i_1)=nT l/\True)) ((asT Int 0=0/\List.map (lcN l) (List.range (aA i))=prO (lcN l) l.length 0/\gsq (lcN l) (aA i)=prG (lcN l) l.length/\True)/\∀ (i_1:{ k:Nat // k<=List.length l }),let eH:=(prO (lcN l) l.length (aA i_1));let fZ:=(aB (aA i_1)).toNat;asT Bool true=true/\ifB (decide (aB (aA i_1)<aB gY.length)) ((0<=aB (aA i_1)/\aB (aA i_1)<aB eH.length/\Int.toNat (aB (aA i_1))<List.length eH/\True)/\((isz (List.getD eH fZ 0)<=1000000000/\isz A₁<=1000000000/\prG (lcN l) l.length≠0)/\0<=aB (aA i_1)/\aB (aA i_1)<aB eH.length/\Int.toNat (aB (aA i_1))<List.length eH/\True)/\∃ (i':{ k:Nat // k<=List.length l }),List.length l-aA i'<List.length l-aA i_1/\IntKind.wrap IntKind.i64 (aB (aA i_1)+1)=aB (aA i')/\List.set eH fZ (Int.fdiv (List.getD eH fZ 0) A₁)=prO (lcN l) l.length (aA i')/\prG (lcN l) l.length=prG (lcN l) l.length/\True) (True/\prO (lcN l) l.length (aA i_1)=nT l/\True))))) (by kernel_rfl) ?_
 have hZ:(⟨false,0,[],[]⟩:aH)=bF:=rfl
 try simp only[aF,ak,ah]
 try dsimp only[aB,asT,aA,aG,Ty.den,Lf.den] at *
 try simp only[hZ,Int.toNat_natCast,aF,ak,ah,jo,jm,iq,dh]
 try simp only[cZ,cO,List.all_cons,List.all_nil,jr,gy,iw,jf,ni,ne_eq,au,bg,eu,ig,jh,qh,jy,ql,jo,jm,je,dn,List.length_cons,List.length_nil]
 have hp:BF l:=hp
 obtain⟨hK,j0,hj0,hx0⟩:=hp.at
 have hn:=hp.1
 have hv:∀ j,l.getD j 0=lv l j:=fun _=>rfl
 simp only[hv,ru,dh,b0m] at *
 have hL:∀ k,k<=l.length->isz (kG (lv l) k)<=64000001:=fun k hk=>jc (EX hK k hk) (by omega)
 have hd:∀ k,k<l.length->isz ((lv l k).den:Int)<=1000000:=fun k hk=>jc (jY _) (hK k hk)
 have hm:∀ k,k<l.length->isz (lv l k).num<=1000000:=fun k hk=>jc (lC _) (hK k hk)
 have hN:∀ j,j<l.length->isz (lcN l j)<=65000001:=fun j hj=>jc (DW (hL _ (ay _)) (nO hj) (hK j hj)) (by omega)
 have hne:prG (lcN l) l.length≠0:=QS hj0 (DX (EY _ _) (nO hj0) hx0)
 have hG:isz (prG (lcN l) l.length)<=65000001:=a4k hN
 have hg:∀ k,k<=l.length->isz (gsq (lcN l) k)<=65000001:=fun k hk=>EM k fun j hj=>hN j (by omega)
 have hN2:∀ j,(lv l j).num*(kG (lv l) l.length).fdiv ((lv l j).den:Int)=lcN l j:=fun _=>rfl
 simp only[hN2]
 refine⟨⟨by omega,by omega⟩,rfl,fun i=>⟨fun h1=>?_,fun h1=>⟨⟨by rw[show i.1=l.length by have:=i.2;omega],rfl,rfl⟩,fun i2=>⟨fun h2=>?_,fun h2=>?_⟩⟩⟩⟩
 ·have hi:i.1<l.length:=by omega
  exact⟨⟨by omega,h1⟩,⟨jc (hL _ i.2) (by omega),jc (hd _ hi) (by omega)⟩,⟨jc (hd _ hi) (by omega),jc (kF (XA _) (hd _ hi)) (by omega),b3V _ _⟩,⟨jc (hL _ i.2) (by omega),jc (b3W (hK _ hi)) (by omega)⟩,⟨i.1+1,by omega⟩,by simp only;omega,by rw[aS (by omega) (by omega)];rfl,rfl⟩
 ·have hi:i2.1<l.length:=by omega
  refine⟨⟨by omega,h2⟩,⟨jc (hL _ (ay _)) (by omega),jc (hd _ hi) (by omega),XA _⟩,⟨jc (hm _ hi) (by omega),jc (a1J (hL _ (ay _)) (nO hi)) (by omega)⟩,by omega,⟨jc (hg _ i2.2) (by omega),jc (hN _ hi) (by omega)⟩,fun h3=>⟨⟨i2.1+1,by omega⟩,by simp only;omega,by rw[aS (by omega) (by omega)];rfl,?_,rfl,?_⟩,fun h3=>⟨⟨i2.1+1,by omega⟩,by simp only;omega,by rw[aS (by omega) (by omega)];rfl,?_,rfl,?_⟩⟩
  ·rw[Ba,Az];rfl
  ·exact(jl h3).symm
  ·rw[Ba,Az];rfl
  ·exact(jd h3).symm
 ·have hi2:i2.1=l.length:=by have:=i2.2;omega
  rw[hi2]
  refine⟨fun h3=>⟨jc (hg _ (ay _)) (by omega),?_⟩,fun h3=>?_⟩
  ·refine⟨⟨a4m,(jl (Du.1 h3)).symm⟩,fun i3=>⟨fun h4=>?_,fun h4=>?_⟩⟩
   ·have hi3:i3.1<l.length:=by omega
    rw[vY hi3,jd (by omega)]
    refine⟨⟨by omega,by rw[jB];omega,by rw[jB];exact hi3⟩,⟨⟨jc (hN _ hi3) (by omega),jc hG (by omega),hne⟩,by omega,by rw[jB];omega,by rw[jB];exact hi3⟩,⟨i3.1+1,by omega⟩,by simp only;omega,by rw[aS (by omega) (by omega)];rfl,?_⟩
    have:=MI (N:=lcN l) hi3
    rw[vY hi3,jd (by omega)] at this
    exact this
   ·rw[show i3.1=l.length by have:=i3.2;omega,a4n];rfl
  ·refine⟨⟨a4m,(jd (fun e=>h3 (Du.2 e))).symm⟩,fun i3=>⟨fun h4=>?_,fun h4=>?_⟩⟩
   ·have hi3:i3.1<l.length:=by omega
    rw[vY hi3,jd (by omega)]
    refine⟨⟨by omega,by rw[jB];omega,by rw[jB];exact hi3⟩,⟨⟨jc (hN _ hi3) (by omega),jc hG (by omega),hne⟩,by omega,by rw[jB];omega,by rw[jB];exact hi3⟩,⟨i3.1+1,by omega⟩,by simp only;omega,by rw[aS (by omega) (by omega)];rfl,?_⟩
    have:=MI (N:=lcN l) hi3
    rw[vY hi3,jd (by omega)] at this
    exact this
   ·rw[show i3.1=l.length by have:=i3.2;omega,a4n];rfl
def lrN (l:LQ') (j:Nat):Int:=NU (qG (lv l) l.length) (lv l) j
theorem a8Q:aI Tryz.prog 102 b9x:=by
 refine aO ((((((nil0.ad a1v).ad b0S).ad a1w).ad IC).ad wV).ad ZC) ⟨[3,5,7,10,11,12,14],[],[]⟩ Tryz.func102 rfl (by decide) (fun x=>[.inv {k:Nat // k<=(show LQ' from x.1).length} (fun k=>[(19,.val tI (k.1:Int))]) (fun k=>[(3,.box [⟨tZ,qG (lv (show LQ' from x.1)) k.1⟩])]) (fun k=>(show LQ' from x.1).length-k.1) ⟨0,by omega⟩ (fun _=>[]),
  .inv {k:Nat // k<=(show LQ' from x.1).length} (fun k=>[(31,.val tI (k.1:Int)),(8,.val tI (sgn (fsq (lrN (show LQ' from x.1)) k.1))),(6,.own 56 0),(56,.any)]) (fun k=>[(56,.row 45 tZ ((List.range k.1).map (lrN (show LQ' from x.1))) 0),(3,.box [⟨tZ,qG (lv (show LQ' from x.1)) (show LQ' from x.1).length⟩]),(7,.box [⟨tZ,gsq (lrN (show LQ' from x.1)) k.1⟩])]) (fun k=>(show LQ' from x.1).length-k.1) ⟨0,by omega⟩ (fun _=>[]),
  .inv {k:Nat // k<=(show LQ' from x.1).length} (fun k=>[(65,.val tI (k.1:Int))]) (fun k=>[(56,.row 45 tZ (prO (lrN (show LQ' from x.1)) (show LQ' from x.1).length k.1) 0),(7,.box [⟨tZ,prG (lrN (show LQ' from x.1)) (show LQ' from x.1).length⟩])]) (fun k=>(show LQ' from x.1).length-k.1) ⟨0,by omega⟩ (fun _=>[])]) (fun x hp=>?_)
 obtain⟨l,u⟩:=x
 change List Rat at l
 refine aY (let A₀:=(qG (lv l) l.length);let A₁:=(prG (lrN l) l.length);(dU 1/\True)/\(asT Int 0=0/\1=qG (lv l) 0/\True)/\∀ (i:{ k:Nat // k<=List.length l }),asT Bool true=true/\ifB (decide (aB (aA i)<aB l.length)) ((0<=aB (aA i)/\aB (aA i)<aB l.length/\True)/\((isz (qG (lv l) (aA i))<=1000000000/\isz (aB (Rat.den (List.getD l (aB (aA i)).toNat 0)))<=1000000000)/\True)/\∃ (i':{ k:Nat // k<=List.length l }),List.length l-aA i'<List.length l-aA i/\IntKind.wrap IntKind.i64 (aB (aA i)+1)=aB (aA i')/\qG (lv l) (aA i)*aB (Rat.den (List.getD l (aB (aA i)).toNat 0))=qG (lv l) (aA i')/\True) ((dU 0/\True)/\(asT Int 0=0/\0=sgn (fsq (lrN l) 0)/\(True/\asT (List Int) (aG Int)=aG Int)/\(asT (List Int) (aG Int)=aG Int/\0=0/\asT Bool true=true)/\qG (lv l) (aA i)=qG (lv l) l.length/\0=gsq (lrN l) 0/\True)/\∀ (i:{ k:Nat // k<=List.length l }),let A₂:=(List.getD l (aB (aA i)).toNat 0);let aW:=(Int.fdiv A₀ (aB (Rat.den A₂))*Rat.num A₂);let eU:=(List.map (lrN l) (List.range (aA i)));let bW:=(List.length eU+List.length (Int.fdiv A₀ (aB (Rat.den A₂))*Rat.num A₂::aG Int)<=1000000000/\True);let gY:=(gsq (lrN l) (aA i));let dG:=(fsq (lrN l) (aA i));asT Bool true=true/\ifB (decide (aB (aA i)<aB l.length)) ((0<=aB (aA i)/\aB (aA i)<aB l.length/\True)/\((isz A₀<=400000000/\isz (aB (Rat.den A₂))<=400000000/\aB (Rat.den A₂)≠0)/\True)/\((isz (Int.fdiv A₀ (aB (Rat.den A₂)))<=1000000000/\isz (Rat.num A₂)<=1000000000)/\True)/\((isz gY<=1000000000/\isz aW<=1000000000)/\True)/\ifB (sgn dG==0) ((isz aW<=1000000000/\True)/\bW/\∃ (i':{ k:Nat // k<=List.length l }),List.length l-aA i'<List.length l-aA i/\IntKind.wrap IntKind.i64 (aB (aA i)+1)=aB (aA i')/\sgn aW=sgn (fsq (lrN l) (aA i'))/\List.map (lrN l) (List.range (aA i))++Int.fdiv A₀ (aB (Rat.den A₂))*Rat.num A₂::aG Int=List.map (lrN l) (List.range (aA i'))/\qG (lv l) l.length=qG (lv l) l.length/\aB (Int.gcd gY aW)=gsq (lrN l) (aA i')/\True) (bW/\∃ (i':{ k:Nat // k<=List.length l }),List.length l-aA i'<List.length l-aA i/\IntKind.wrap IntKind.i64 (aB (aA i)+1)=aB (aA i')/\sgn dG=sgn (fsq (lrN l) (aA i'))/\List.map (lrN l) (List.range (aA i))++Int.fdiv A₀ (aB (Rat.den A₂))*Rat.num A₂::aG Int=List.map (lrN l) (List.range (aA i'))/\qG (lv l) l.length=qG (lv l) l.length/\aB (Int.gcd gY aW)=gsq (lrN l) (aA i')/\True)) (ifB (decide (sgn dG<0)) ((isz gY<=1000000000/\True)/\(asT Int 0=0/\List.map (lrN l) (List.range (aA i))=prO (lrN l) l.length 0/\-gsq (lrN l) (aA i)=prG (lrN l) l.length/\True)/\∀ (i_1:{ k:Nat // k<=List.length l }),let gJ:=(prO (lrN l) l.length (aA i_1));let fJ:=(aB (aA i_1)).toNat;asT Bool true=true/\ifB (decide (aB (aA i_1)<aB eU.length)) ((0<=aB (aA i_1)/\aB (aA i_1)<aB gJ.length/\Int.toNat (aB (aA i_1))<List.length gJ/\(isz (List.getD gJ fJ 0)<=400000000/\isz A₁<=400000000/\prG (lrN l) l.length≠0)/\0<=aB (aA i_1)/\aB (aA i_1)<aB gJ.length/\Int.toNat (aB (aA i_1))<List.length gJ/\True)/\∃ (i':{ k:Nat // k<=List.length l }),List.length l-aA i'<List.length l-aA i_1/\IntKind.wrap IntKind.i64 (aB (aA i_1)+1)=aB (aA i')/\List.set gJ fJ (Int.fdiv (List.getD gJ fJ 0) A₁)=prO (lrN l) l.length (aA i')/\prG (lrN l) l.length=prG (lrN l) l.length/\True) (True/\prO (lrN l) l.length (aA i_1)=nT l/\True)) ((asT Int 0=0/\List.map (lrN l) (List.range (aA i))=prO (lrN l) l.length 0/\gsq (lrN l) (aA i)=prG (lrN l) l.length/\True)/\∀ (i_1:{ k:Nat // k<=List.length l }),let eH:=(prO (lrN l) l.length (aA i_1));let fZ:=(aB (aA i_1)).toNat;asT Bool true=true/\ifB (decide (aB (aA i_1)<aB eU.length)) ((0<=aB (aA i_1)/\aB (aA i_1)<aB eH.length/\Int.toNat (aB (aA i_1))<List.length eH/\(isz (List.getD eH fZ 0)<=400000000/\isz A₁<=400000000/\prG (lrN l) l.length≠0)/\0<=aB (aA i_1)/\aB (aA i_1)<aB eH.length/\Int.toNat (aB (aA i_1))<List.length eH/\True)/\∃ (i':{ k:Nat // k<=List.length l }),List.length l-aA i'<List.length l-aA i_1/\IntKind.wrap IntKind.i64 (aB (aA i_1)+1)=aB (aA i')/\List.set eH fZ (Int.fdiv (List.getD eH fZ 0) A₁)=prO (lrN l) l.length (aA i')/\prG (lrN l) l.length=prG (lrN l) l.length/\True) (True/\prO (lrN l) l.length (aA i_1)=nT l/\True))))) (by kernel_rfl) ?_
 have hZ:(⟨false,0,[],[]⟩:aH)=bF:=rfl
 try simp only[aF,ak,ah]
 try dsimp only[aB,asT,aA,aG,Ty.den,Lf.den] at *
 try simp only[hZ,Int.toNat_natCast,aF,ak,ah,jo,jm,iq,dh]
 try simp only[cZ,cO,List.all_cons,List.all_nil,jr,gy,iw,jf,ni,ne_eq,au,bg,eu,ig,jh,qh,jy,ql,jo,jm,je,dn,List.length_cons,List.length_nil]
 have hp:BF l:=hp
 obtain⟨hK,j0,hj0,hx0⟩:=hp.at
 have hn:=hp.1
 have hv:∀ j,l.getD j 0=lv l j:=fun _=>rfl
 simp only[hv,ru,dh,b0m,a2I] at *
 have hL:∀ k,k<=l.length->isz (qG (lv l) k)<=64000001:=fun k hk=>jc (a0N hK k hk) (by omega)
 have hd:∀ k,k<l.length->isz ((lv l k).den:Int)<=1000000:=fun k hk=>jc (jY _) (hK k hk)
 have hm:∀ k,k<l.length->isz (lv l k).num<=1000000:=fun k hk=>jc (lC _) (hK k hk)
 have hN:∀ j,j<l.length->isz (lrN l j)<=65000001:=fun j hj=>jc (DW (hL _ (ay _)) (QH hj) (hK j hj)) (by omega)
 have hne:prG (lrN l) l.length≠0:=QS hj0 (DX (b2g _ _) (QH hj0) hx0)
 have hG:isz (prG (lrN l) l.length)<=65000001:=a4k hN
 have hg:∀ k,k<=l.length->isz (gsq (lrN l) k)<=65000001:=fun k hk=>EM k fun j hj=>hN j (by omega)
 have hN2:∀ j,(qG (lv l) l.length).fdiv ((lv l j).den:Int)*(lv l j).num=lrN l j:=fun _=>Int.mul_comm _ _
 simp only[hN2]
 refine⟨⟨by omega,by omega⟩,rfl,fun i=>⟨fun h1=>?_,fun h1=>⟨⟨by omega,by omega⟩,⟨rfl,by rw[show i.1=l.length by have:=i.2;omega],rfl⟩,fun i2=>⟨fun h2=>?_,fun h2=>?_⟩⟩⟩⟩
 ·have hi:i.1<l.length:=by omega
  exact⟨⟨by omega,h1⟩,⟨jc (hL _ i.2) (by omega),jc (hd _ hi) (by omega)⟩,⟨i.1+1,by omega⟩,by simp only;omega,by rw[aS (by omega) (by omega)];rfl,rfl⟩
 ·have hi:i2.1<l.length:=by omega
  refine⟨⟨by omega,h2⟩,⟨jc (hL _ (ay _)) (by omega),jc (hd _ hi) (by omega),XA _⟩,⟨jc (a1J (hL _ (ay _)) (QH hi)) (by omega),jc (hm _ hi) (by omega)⟩,⟨jc (hg _ i2.2) (by omega),jc (hN _ hi) (by omega)⟩,fun h3=>⟨jc (hN _ hi) (by omega),by omega,⟨i2.1+1,by omega⟩,by simp only;omega,by rw[aS (by omega) (by omega)];rfl,?_,?_,rfl⟩,fun h3=>⟨by omega,⟨i2.1+1,by omega⟩,by simp only;omega,by rw[aS (by omega) (by omega)];rfl,?_,?_,rfl⟩⟩
  ·exact xg sgn (jl h3).symm
  ·rw[Ba,Az];rfl
  ·exact xg sgn (jd h3).symm
  ·rw[Ba,Az];rfl
 ·have hi2:i2.1=l.length:=by have:=i2.2;omega
  rw[hi2]
  refine⟨fun h3=>⟨jc (hg _ (ay _)) (by omega),?_⟩,fun h3=>?_⟩
  ·refine⟨⟨a4m,(jl (Du.1 h3)).symm⟩,fun i3=>⟨fun h4=>?_,fun h4=>?_⟩⟩
   ·have hi3:i3.1<l.length:=by omega
    rw[vY hi3,jd (by omega)]
    refine⟨⟨by omega,by rw[jB];omega,by rw[jB];exact hi3,⟨jc (hN _ hi3) (by omega),jc hG (by omega),hne⟩,by omega,by rw[jB];omega,by rw[jB];exact hi3⟩,⟨i3.1+1,by omega⟩,by simp only;omega,by rw[aS (by omega) (by omega)];rfl,?_⟩
    have:=MI (N:=lrN l) hi3
    rw[vY hi3,jd (by omega)] at this
    exact this
   ·rw[show i3.1=l.length by have:=i3.2;omega,a4n];exact a9A _ _
  ·refine⟨⟨a4m,(jd (fun e=>h3 (Du.2 e))).symm⟩,fun i3=>⟨fun h4=>?_,fun h4=>?_⟩⟩
   ·have hi3:i3.1<l.length:=by omega
    rw[vY hi3,jd (by omega)]
    refine⟨⟨by omega,by rw[jB];omega,by rw[jB];exact hi3,⟨jc (hN _ hi3) (by omega),jc hG (by omega),hne⟩,by omega,by rw[jB];omega,by rw[jB];exact hi3⟩,⟨i3.1+1,by omega⟩,by simp only;omega,by rw[aS (by omega) (by omega)];rfl,?_⟩
    have:=MI (N:=lrN l) hi3
    rw[vY hi3,jd (by omega)] at this
    exact this
   ·rw[show i3.1=l.length by have:=i3.2;omega,a4n];exact a9A _ _
theorem yO (l:LQ'):(nT l).length=l.length:=by unfold nT a9z;simp
theorem a4o {l:LQ'} (h:BF l):∀ n ∈ nT l,isz n<=65000001:=fun n hn=>by
 obtain⟨hK,j0,hj0,hx0⟩:=h.at
 have h64:=h.1
 have hN:∀ j,j<l.length->isz (lcN l j)<=65000001:=fun j hj=>jc (DW (jc (EX hK _ (ay _)) (show _<=64000001 by omega)) (nO hj) (hK j hj)) (by omega)
 obtain⟨j,hj,rfl⟩:=qm.1 hn
 have hj:=uj.1 hj
 exact a4l hj (QS hj0 (DX (EY _ _) (nO hj0) hx0)) (hN j hj)
theorem whT {P:List Int} {i:Nat} (hi:i<P.length):(P.map fun n=>bV n).take i++[bV (P.getD i 0)]=(P.map fun n=>bV n).take (i+1):=by
 rw[Ar,uf,dw hi,bn,dw hi];rfl
theorem KA (n:Int):Rat.divInt n 1=bV n:=by
 rw[show (1:Int)=((1:Nat):Int) from rfl,Rat.divInt_ofNat];exact Rat.mkRat_one n
noncomputable def b9A:Ctr:=⟨[tZ],[tQ],fun x=>isz x.1<=390000000,fun x=>(bV x.1,())⟩
theorem a9C:aI Tryz.prog 150 b9A:=by
 refine aO ((nil0.ad VZ).ad XH) ⟨[2,3],[],[]⟩ Tryz.func150 rfl (by decide) (fun x=>[]) (fun x hp=>?_)
 obtain⟨n,u⟩:=x
 change Int at n
 refine aY ((dU 1/\(isz n<=1000000000/\isz 1<=1000000000)/\True)/\(asT Bool true=true/\True)/\Rat.divInt n 1=bV n/\True) (by kernel_rfl) ?_
 have hZ:(⟨false,0,[],[]⟩:aH)=bF:=rfl
 try simp only[aF,ak,ah]
 try dsimp only[aB,asT,aA,aG,Ty.den,Lf.den] at *
 try simp only[hZ,Int.toNat_natCast,aF,ak,ah,jo,jm,iq,dh]
 try simp only[cZ,cO,List.all_cons,List.all_nil,jr,gy,iw,jf,ni,ne_eq,au,bg,eu,ig,jh,qh,jy,ql,jo,jm,je,dn,List.length_cons,List.length_nil]
 have hp:isz n<=390000000:=hp
 exact⟨⟨⟨by omega,by omega⟩,by omega,by rw[show isz 1=1 by decide +kernel];omega⟩,(KA n)⟩
theorem i9T {l:LQ'} (h:l.length=9) {i:Nat} (h9:i<=9) (hi:¬ (i:Int)<((nT l).length:Int)):(((nT l).map fun n=>bV n).take i)=(nT l).map fun n=>bV n:=jv (by rw[ru];omega)
def uM {α:Type} (l:List α):List (List α):=[l.take 3,(l.take 6).drop 3,l.drop 6]
def CJ (l:LQ'):MQ:=uM ((nT l).map fun n=>bV n)
noncomputable def b9e:Ctr:=⟨[.list tQ],[tM],fun x=>BF x.1/\(show LQ' from x.1).length=9,fun x=>(CJ x.1,())⟩
theorem a6Q:aI Tryz.prog 62 b9e:=by
 refine aO ((nil0.ad b2A).ad a9C) ⟨[5],[],[]⟩ Tryz.func62 rfl (by decide) (fun x=>[.inv {k:Nat // k<=9} (fun k=>[(9,.val tI (k.1:Int)),(3,.own 16 0),(16,.any)]) (fun k=>[(16,.row 47 tQ (((nT (show LQ' from x.1)).map fun n=>bV n).take k.1) 0)]) (fun k=>9-k.1) ⟨0,by omega⟩ (fun _=>[])]) (fun x hp=>?_)
 obtain⟨l,u⟩:=x
 change List Rat at l
 refine aY (let A₀:=(List.map (fun(n:Int)=>bV n) (nT l));(BF l/\True)/\(asT Int 0=0/\(True/\asT (List Rat) (aG Rat)=aG Rat)/\(asT (List Rat) (aG Rat)=aG Rat/\0=0/\asT Bool true=true)/\True)/\∀ (i:{ k:Nat // k<=9 }),let A₁:=(List.take (aA i) A₀);let A₂:=(List.getD (nT l) (aB (aA i)).toNat 0);asT Bool true=true/\ifB (decide (aB (aA i)<aB (nT l).length)) ((0<=aB (aA i)/\aB (aA i)<aB (nT l).length/\True)/\(isz A₂<=390000000/\List.length A₁+List.length (bV A₂::aG Rat)<=1000000000/\True)/\∃ (i':{ k:Nat // k<=9 }),9-aA i'<9-aA i/\IntKind.wrap IntKind.i64 (aB (aA i)+1)=aB (aA i')/\List.take (aA i) A₀++bV A₂::aG Rat=List.take (aA i') A₀/\True) ((asT Int 0<=0/\asT Int 0<=3/\asT Int 3<=3/\3<=aB A₁.length/\asT Int 0<=3/\asT Int 3<=6/\asT Int 6<=6/\6<=aB A₁.length/\asT Int 0<=6/\6<=aB A₁.length/\aB A₁.length<=aB A₁.length/\True)/\True/\List.drop 0 (List.take 3 A₁)::List.drop 3 (List.take 6 A₁)::List.drop 6 (List.take (aB A₁.length).toNat A₁)::aG (List Rat)=CJ l/\True)) (by kernel_rfl) ?_
 have hZ:(⟨false,0,[],[]⟩:aH)=bF:=rfl
 try simp only[aF,ak,ah]
 try dsimp only[aB,asT,aA,aG,Ty.den,Lf.den] at *
 try simp only[hZ,Int.toNat_natCast,aF,ak,ah,jo,jm,iq,dh]
 try simp only[cZ,cO,List.all_cons,List.all_nil,jr,gy,iw,jf,ni,ne_eq,au,bg,eu,ig,jh,qh,jy,ql,jo,jm,je,dn,List.length_cons,List.length_nil]
 obtain⟨hp,h9⟩:BF l/\l.length=9:=hp
 have hl:=yO l
 refine⟨hp,fun i=>⟨fun h1=>⟨⟨by omega,h1⟩,⟨jc (dB (a4o hp) (by omega)) (by omega),by rw[mg];omega⟩,⟨i.1+1,by omega⟩,by simp only;omega,by rw[aS (by omega) (by omega)];rfl,whT (by omega)⟩,fun h1=>?_⟩⟩
 rw[i9T h9 i.2 h1,ru,hl,h9]
 refine⟨by omega,?_⟩
 unfold CJ uM
 rw[List.drop_zero,jv (i:=9) (by rw[ru];omega)]
noncomputable def b9E:Ctr:=⟨[.list tQ],[tM],fun x=>(show LQ' from x.1).length=9,fun x=>(uM (show LQ' from x.1),())⟩
theorem a1i:aI Tryz.prog 120 b9E:=by
 refine aO Lib.nil ⟨[],[],[]⟩ Tryz.func120 rfl (by decide) (fun x=>[]) (fun x hp=>?_)
 obtain⟨l,u⟩:=x
 change List Rat at l
 refine aY ((asT Int 0<=0/\asT Int 0<=3/\asT Int 3<=3/\3<=aB l.length/\asT Int 0<=3/\asT Int 3<=6/\asT Int 6<=6/\6<=aB l.length/\asT Int 0<=6/\asT Int 6<=9/\asT Int 9<=9/\9<=aB l.length/\True)/\True/\List.drop 0 (List.take 3 l)::List.drop 3 (List.take 6 l)::List.drop 6 (List.take 9 l)::aG (List Rat)=uM l/\True) (by kernel_rfl) ?_
 have hZ:(⟨false,0,[],[]⟩:aH)=bF:=rfl
 try simp only[aF,ak,ah]
 try dsimp only[aB,asT,aA,aG,Ty.den,Lf.den] at *
 try simp only[hZ,Int.toNat_natCast,aF,ak,ah,jo,jm,iq,dh]
 try simp only[cZ,cO,List.all_cons,List.all_nil,jr,gy,iw,jf,ni,ne_eq,au,bg,eu,ig,jh,qh,jy,ql,jo,jm,je,dn,List.length_cons,List.length_nil]
 have hp:l.length=9:=hp
 refine⟨by omega,?_⟩
 unfold uM
 rw[List.drop_zero,jv (i:=9) (by omega)]
noncomputable def b9g:Ctr:=⟨[tM],[tM],fun x=>m33 1000000 x.1/\∃ q ∈ (show MQ from x.1).flatten,q≠0,fun x=>(CJ (show MQ from x.1).flatten,())⟩
theorem a6S:aI Tryz.prog 39 b9g:=by
 refine aO ((((nil0.ad a1v).ad a8Q).ad ZW).ad a1i) ⟨[5],[],[(18,tQ)]⟩ Tryz.func39 rfl (by decide) (fun x=>[.inv {k:Nat // k<=9} (fun k=>[(10,.val tI (k.1:Int)),(3,.own 18 0),(18,.any)]) (fun k=>[(18,.row 47 tQ (((nT (show MQ from x.1).flatten).map fun n=>bV n).take k.1) 0)]) (fun k=>9-k.1) ⟨0,by omega⟩ (fun _=>[])]) (fun x hp=>?_)
 obtain⟨f,u⟩:=x
 change List (List Rat) at f
 refine aY (let A₁:=(fun(x:Ty.den (Ty.pair (Ty.lf Lf.big) (Ty.pair (Ty.lf Lf.big) Ty.unit)))=>Rat.divInt (asT Int x.1) (asT Int x.2.1));let A₂:=(nT (List.flatten f));let A₀:=(List.map (fun(n:Int)=>bV n) A₂);((List.length f<=1000/\∀ (r:List Rat),r ∈ f->List.length r<=1000)/\BF (List.flatten f)/\True)/\(asT Int 0=0/\(True/\asT (List Rat) (aG Rat)=aG Rat)/\(asT (List Rat) (aG Rat)=aG Rat/\0=0/\asT Bool true=true)/\True)/\∀ (i:{ k:Nat // k<=9 }),let aW:=(List.take (aA i) A₀);let bW:=((List.getD A₂ (aB (aA i)).toNat 0,1,())::aG (Int × Int × PUnit));asT Bool true=true/\ifB (decide (aB (aA i)<aB A₂.length)) ((0<=aB (aA i)/\aB (aA i)<aB A₂.length/\True)/\(dU 1/\List.length aW+List.length (List.map A₁ bW)<=1000000000/\((asT Int 0<1/\Int.gcd (List.getD A₂ (aB (aA i)).toNat 0) 1=1/\True)/\True)/\True)/\∃ (i':{ k:Nat // k<=9 }),9-aA i'<9-aA i/\IntKind.wrap IntKind.i64 (aB (aA i)+1)=aB (aA i')/\List.take (aA i) A₀++List.map A₁ bW=List.take (aA i') A₀/\True) ((List.length aW=9/\True)/\True/\List.take 3 aW::List.drop 3 (List.take 6 aW)::List.drop 6 aW::aG (List Rat)=CJ (List.flatten f)/\True)) (by kernel_rfl) ?_
 have hZ:(⟨false,0,[],[]⟩:aH)=bF:=rfl
 try simp only[aF,ak,ah]
 try dsimp only[aB,asT,aA,aG,Ty.den,Lf.den] at *
 try simp only[hZ,Int.toNat_natCast,aF,ak,ah,jo,jm,iq,dh]
 try simp only[cZ,cO,List.all_cons,List.all_nil,jr,gy,iw,jf,ni,ne_eq,au,bg,eu,ig,jh,qh,jy,ql,jo,jm,je,dn,List.length_cons,List.length_nil]
 obtain⟨hf,hq⟩:m33 1000000 f/\∃ q ∈ f.flatten,q≠0:=hp
 have h9:=hf.flat.1
 have hp:BF f.flatten:=⟨by omega,hf.flat.2,hq⟩
 have hl:=yO f.flatten
 have h3:=hf.1.len
 refine⟨⟨⟨by omega,fun r hr=>by have:=hf.1.2.1 r hr;omega⟩,hp⟩,fun i=>⟨fun h1=>⟨⟨by omega,h1⟩,⟨⟨by omega,by omega⟩,by rw[mg];show _+1<=_;omega,by omega,Int.gcd_one_right _⟩,⟨i.1+1,by omega⟩,by simp only;omega,by rw[aS (by omega) (by omega)];rfl,?_⟩,fun h1=>?_⟩⟩
 ·show _++[Rat.divInt _ 1]=_
  rw[KA]
  exact whT (by omega)
 ·rw[i9T h9 i.2 h1]
  refine⟨by rw[ru,hl,h9],rfl⟩
end Go.Proofs.YtbkocjmmbkifjaaGreat
