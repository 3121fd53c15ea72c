/-
  Lemmas for the theorem veight28_holds, part 31 of 32.
-/
import Derived.Test.YtbkocjmmbkifjaaGreatQg29
import Derived.Test.YtbkocjmmbkifjaaGreatQg30
namespace Go.Proofs.YtbkocjmmbkifjaaGreat
open Go Go.RowKit
set_option maxRecDepth 100000
set_option maxHeartbeats 4000000
set_option linter.unusedVariables false
set_option linter.unusedSimpArgs false
abbrev LLI:Type:=List (List Int)
def dD (R C:Nat) (f:Nat->Nat->Int):LLI:=(List.range R).map fun i=>(List.range C).map (f i)
def rqM (x:LLI):MQ:=List.map (fun r:List Int=>List.map (fun n:Int=>bV n) r) x
def kmx (x:LLI):Nat->Nat->Nat->Int:=kmI x.length (ent (rqM x))
def kdx (x:LLI):Nat->Int:=kdI x.length (ent (rqM x))
def kpx (x:LLI):Nat->Nat:=kpv x.length (ent (rqM x))
def klx (x:LLI):Nat->Nat:=kln x.length (ent (rqM x))
def plx (x:LLI) (c:Nat):List Nat:=(red x.length (ent (rqM x)) c).2
def kxx (x:LLI):Nat->Nat->Nat:=kix x.length (ent (rqM x))
def kTx (x:LLI) (c i a b:Nat):Int:=if a<i then kmx x (c+1) a b else kmx x c (kxx x c a) b
def kUx (x:LLI) (c i j a b:Nat):Int:=if a<i\/a=i/\b<j then kmx x (c+1) a b else kmx x c (kxx x c a) b
def qM (x:LLI) (c:Nat):LR:=(List.range (wdM (rqM x))).map fun d=>if d<c then dL (bV 0) else bF
def KX (x:LLI):Prop:=1<=x.length/\x.length<=64/\(∀ r ∈ x,r.length=9)/\∀ r ∈ x,∀ n ∈ r,isz n<=1
theorem b0E (R C:Nat) (f:Nat->Nat->Int):(dD R C f).length=R:=by unfold dD;simp
theorem GK {R C:Nat} {f:Nat->Nat->Int} {i:Nat} (h:i<R):(dD R C f).getD i []=(List.range C).map (f i):=by unfold dD;exact iR h
theorem pG {R C:Nat} {f g:Nat->Nat->Int} (h:∀ i,i<R->∀ j,j<C->f i j=g i j):dD R C f=dD R C g:=ny fun i hi=>ny fun j hj=>h i (uj.1 hi) j (uj.1 hj)
theorem b0F {R C:Nat} {f:Nat->Nat->Int} {i j:Nat} (v:Int) (h:i<R):(dD R C f).set i (((List.range C).map (f i)).set j v)=dD R C (fun a b=>if a=i/\b=j then v else f a b):=by
 unfold dD
 rw[map_set,map_set]
 refine ny fun k _=>?_
 by_cases e:k=i
 ·subst e;rw[jl rfl]
  refine ny fun d _=>?_
  show _=if k=k/\d=j then v else f k d
  by_cases e2:d=j
  ·rw[jl e2,jl ⟨rfl,e2⟩]
  ·rw[jd e2,jd (fun h=>e2 h.2)]
 ·rw[jd e]
  refine ny fun d _=>?_
  show _=if k=i/\d=j then v else f k d
  rw[jd (fun h=>e h.1)]
theorem b0A {R C r k:Nat} {m:Nat->Nat->Int} (hr:r<R) (hk:k<R):List.map (fun t=>(dD R C m).getD t []) (((List.range R).set r k).set k r)=dD R C (fun i=>m (if i=r then k else if i=k then r else i)):=by
 rw[MZ,List.map_map]
 unfold dD
 refine ny fun i hi=>?_
 have hi:=uj.mp hi
 show (dD R C m).getD (if i=k then r else if i=r then k else i) []=_
 have e:(if i=k then r else if i=r then k else i)=if i=r then k else if i=k then r else i:=by
  by_cases e1:i=k<;>by_cases e2:i=r<;>simp[e1,e2]<;>omega
 rw[e]
 exact GK (by split;exact hk;split;exact hr;exact hi)
theorem a2A {x:LLI} (h:KX x):isM (rqM x) x.length 9:=⟨ru _,fun r hr=>by obtain⟨s,hs,rfl⟩:=qm.1 hr;rw[ru];exact h.2.2.1 s hs,h.1,h.2.1,by omega,by omega⟩
theorem a9Z {x:LLI} {i j:Nat} (hi:i<x.length):ent (rqM x) i j=bV ((x.getD i []).getD j 0):=by
 show ((rqM x).getD i []).getD j 0=_
 have e:(rqM x).getD i []=List.map (fun n:Int=>bV n) (x.getD i []):=by
  unfold rqM
  rw[bn,uf,dw hi,bn,dw hi];rfl
 rw[e]
 generalize x.getD i []=r
 by_cases h:j<r.length
 ·rw[bn,uf,dw h,bn,dw h];rfl
 ·rw[bn,uf,qw (by omega),bn,qw (by omega)];rfl
theorem yY {x:LLI}:∀ i,i<x.length->isR (ent (rqM x) i):=fun i hi j=>⟨_,a9Z hi⟩
theorem c0M {x:LLI} (h:KX x):Cdn (ent (rqM x)) x.length 9 1:=⟨1,by omega,by decide +kernel,fun i hi j hj=>⟨(x.getD i []).getD j 0,by
 rw[a9Z hi]
 show _*(1:Rat)=_
 rw[Rat.mul_one],by
 have hr:=fO (xs:=x) (d:=[]) hi
 exact dB (h.2.2.2 _ hr) (by rw[h.2.2.1 _ hr];exact hj)⟩⟩
theorem b4e {x:LLI} (h:KX x):∀ t,t<=9->∀ i,i<x.length->∀ j,j<9->rsz ((red x.length (ent (rqM x)) t).1 i j)<=1100:=fun t ht i hi j hj=>jc (((c0M h).red t ht).rsz hi hj) (by
 have:2 ^ t<=2 ^ 9:=wu (by omega) ht
 omega)
theorem JD {x:LLI} (h:KX x) {c i j:Nat} (hc:c<=9) (hi:i<x.length) (hj:j<9):isz (kmx x c i j)<=11001:=b1V (b4e h) hc hi hj
theorem a8v {x:LLI} (h:KX x) {c:Nat} (hc:c<=9):isz (kdx x c)<=11001:=b1S (b4e h) hc
theorem c0W {x:LLI} (h:KX x):x=dD x.length 9 (kmx x 0):=by
 apply Dl
 intro i
 unfold dD
 by_cases hi:i<x.length
 ·rw[uf,Ap hi,dw hi]
  show some x[i]=some _
  congr 1
  have hl:=h.2.2.1 _ (wz hi)
  apply Dl
  intro j
  by_cases hj:j<9
  ·rw[uf,Ap hj,dw (by omega)]
   show some _=some (kmx x 0 i j)
   congr 1
   show _=(1*ent (rqM x) i j).num
   rw[Rat.one_mul,a9Z hi,bn (l:=x),dw hi,bn,Option.getD_some,dw (by omega)]
   exact(Rat.num_intCast _).symm
  ·rw[qw (by omega),qw (by simp;omega)]
 ·rw[qw (by omega),qw (by simp;omega)]
theorem wM {R C:Nat} {f:Nat->Nat->Int} {i:Nat} (h:i<R):((dD R C f).getD i []).length=C:=by rw[GK h];simp
theorem zB {R C:Nat} {f:Nat->Nat->Int} {i j:Nat} (h:i<R) (hj:j<C):((dD R C f).getD i []).getD j 0=f i j:=by rw[GK h,iR hj]
theorem w1 {n:Int} (h:isz n<=1):dU n:=by
 have h1:=kQ (bK n.natAbs)
 rw[bG] at h1
 have h2:BB ^ (dig n.natAbs).length<=BB ^ 1:=wu fP h
 have:BB ^ 1=1000000000:=by rw[bH]
 exact⟨by omega,by omega⟩
theorem a8C {x:LLI} {c a:Nat} (h1:klx x c<=a) (h2:a<=x.length) (hz:∀ i,klx x c<=i->i<a->kmx x c i c=0) (hn:a<x.length->kmx x c a c≠0):kpx x c=a:=by
 have hle:klx x c<=x.length:=(fH x.length (ent (rqM x)) c).le
 have h3:klx x c+(x.length-klx x c)=x.length:=by omega
 exact a3z _ c (klx x c) (x.length-klx x c) a h1 (by omega) (fun i a b=>(a0C yY c (by omega) c).1 (hz i a b)) (fun h e=>hn (by omega) ((a0C yY c (by omega) c).2 e))
theorem a8D {x:LLI} {c i:Nat} (h:kpx x c≠x.length) (hi:i<x.length):kxx x c i<x.length:=a8B (a8s h) hi
theorem b3U {x:LLI} {c:Nat}:kxx x c (klx x c)=kpx x c:=jl rfl
theorem b3T {x:LLI} {c:Nat} (h:kpx x c≠x.length) (j:Nat):kmx x (c+1) (klx x c) j=kmx x c (kpx x c) j:=c0B yY h j
theorem c0y {x:LLI} {c i j b:Nat} (h:kpx x c≠x.length):kUx x c i j (klx x c) b=kmx x c (kpx x c) b:=by
 unfold kUx;split
 ·exact b3T h b
 ·rw[b3U]
theorem c0x {x:LLI} {c a b:Nat}:kTx x c 0 a b=kmx x c (kxx x c a) b:=jd (by omega)
theorem a5E {x:LLI} (h:KX x):List.replicate (Int.toNat 9) bF=qM x 0:=by
 unfold qM;rw[(a2A h).wd];rfl
theorem a8A (x:LLI) (c:Nat):(qM x c).set c (dL (bV 0))=qM x (c+1):=by
 unfold qM;rw[map_set]
 refine ny fun d _=>?_
 by_cases e:d=c
 ·rw[jl e,jl (by omega)]
 ·rw[jd e]
  by_cases e2:d<c
  ·rw[jl e2,jl (by omega)]
  ·rw[jd e2,jd (by omega)]
theorem a8z {x:LLI} (j:Nat):(qM x (wdM (rqM x))).set j (dL (bV 1))=kZ (rqM x) j 0:=by
 unfold qM kZ;rw[map_set]
 refine ny fun d hd=>?_
 rw[jl (uj.mp hd)]
 by_cases e:d=j
 ·rw[jl e,jd (by simp)];show _=dL (if d=j then 1 else 0);rw[jl e];rfl
 ·rw[jd e,jd (by simp)];show _=dL (if d=j then 1 else 0);rw[jd e];rfl
theorem a0w {l:List Nat} {t:Nat} (ht:t<l.length):(aU l).getD t 0=(l[t]:Int):=by unfold aU;simp[bn,ht]
theorem b1U {x:LLI} (hk:KX x) {w j t:Nat} (hw:wdM (rqM x)=w) (ht:t<(gX (rqM x)).length):(kZ (rqM x) j t).set ((aU (gX (rqM x))).getD t 0).toNat (newT 14 (-kmx x w t j) (kdx x w)).fst=kZ (rqM x) j (t+1):=by
 have hM:=a2A hk
 have E:Ech (rqM x).length (ent (rqM x)) (wdM (rqM x)) (uZ (rqM x) (wdM (rqM x))).1 (gX (rqM x)):=fH (rqM x).length (ent (rqM x)) (wdM (rqM x))
 have hl:=E.le
 rw[hM.len] at hl
 rw[show newT 14 (-kmx x w t j) (kdx x w)=(dL (Rat.divInt (-kmx x w t j) (kdx x w)),0,()) from jd (a1V yY w),a0w ht,Int.toNat_natCast]
 have e2:Rat.divInt (-kmx x w t j) (kdx x w)=-(uZ (rqM x) (wdM (rqM x))).1 t j:=by
  rw[hw];unfold uZ;rw[hM.len];exact c0A yY (by omega) j
 show List.set _ _ (dL (Rat.divInt (-kmx x w t j) (kdx x w)))=_
 rw[e2]
 exact a0R E.nd ht
theorem b5e {x:LLI} {w t:Nat} (hw:wdM (rqM x)=w) (ht:t<(gX (rqM x)).length):0<=(aU (gX (rqM x))).getD t 0/\(aU (gX (rqM x))).getD t 0<(w:Int)/\((aU (gX (rqM x))).getD t 0).toNat<w:=by
 have E:Ech (rqM x).length (ent (rqM x)) (wdM (rqM x)) (uZ (rqM x) (wdM (rqM x))).1 (gX (rqM x)):=fH (rqM x).length (ent (rqM x)) (wdM (rqM x))
 have hp:=E.lt _ (wz ht)
 rw[a0w ht,Int.toNat_natCast]
 omega
theorem b5f (x:LLI) (n:Int) (hp:KX x/\n=9):let A₀:=(dD x.length 9 (kmx x 9));let A₁:=(asT (List Int) (aG Int)=aG Int/\0=0/\asT Bool true=true);let A₂:=(True/\asT (List Int) (aG Int)=aG Int);let aW:=(aU (plx x 9)).length;(asT Int 0=0/\(True/\asT (List (List Int)) (aG (List Int))=aG (List Int))/\(asT (Option (List Nat)) none=none/\asT (List (List Int)) (aG (List Int))=aG (List Int)/\0=0/\asT Bool true=true)/\True)/\∀ (i:{ k:Nat // k<=List.length x }),let bW:=(List.getD x (aA i) (aG Int));let eU:=(List.getD x (aB (aA i)).toNat (aG Int));asT Bool true=true/\ifB (decide (aB (aA i)<aB x.length)) ((0<=aB (aA i)/\aB (aA i)<aB x.length/\True)/\(asT Int 0=0/\A₂/\List.take (aA i) x=List.take (aA i) x/\A₁/\True)/\∀ (i_1:{ c:Nat // c<=List.length bW }),let gY:=(aB (aA i_1)).toNat;asT Bool true=true/\ifB (decide (aB (aA i_1)<aB eU.length)) ((0<=aB (aA i_1)/\aB (aA i_1)<aB eU.length/\True)/\(dU (List.getD eU gY 0)/\List.length (List.take (aA i_1) bW)+List.length (List.getD eU gY 0::aG Int)<=1000000000/\True)/\∃ (i':{ c:Nat // c<=List.length bW }),List.length bW-aA i'<List.length bW-aA i_1/\IntKind.wrap IntKind.i64 (aB (aA i_1)+1)=aB (aA i')/\List.take (aA i) x=List.take (aA i) x/\List.take (aA i_1) bW++List.getD eU gY 0::aG Int=List.take (aA i') bW/\True) ((aN none (List.take (aA i) x)+1<=1000000000/\True)/\∃ (i':{ k:Nat // k<=List.length x }),List.length x-aA i'<List.length x-aA i/\IntKind.wrap IntKind.i64 (aB (aA i)+1)=aB (aA i')/\List.take (aA i) x++List.take (aA i_1) bW::aG (List Int)=List.take (aA i') x/\True)) ((dU 1/\True)/\(asT Int 0=0/\A₂/\List.take (aA i) x=dD x.length 9 (kmx x 0)/\1=kdx x 0/\A₁/\True)/\∀ (i:{ c:Nat // c<=9 }),let dG:=(dD x.length 9 (kmx x (aA i)));let fJ:=(aU (plx x (aA i))).length;let gJ:=(aB fJ).toNat;asT Bool true=true/\ifB (decide (aB (aA i)<n)) ((aB fJ=aB (klx x (aA i))/\dD x.length 9 (kmx x (aA i))=dD x.length 9 (kmx x (aA i))/\kdx x (aA i)=kdx x (aA i)/\aU (plx x (aA i))=aU (plx x (aA i))/\True)/\∀ (i_1:{ a:Nat // klx x (aA i)<=a/\a<=List.length x/\∀ (i_1:Nat),klx x (aA i)<=i_1->i_1<a->kmx x (aA i) i_1 (aA i)=0 }),let BR:=(aB (aA i_1)<aB (aN none dG));let fZ:=(decide BR==true);let BU:=(aB (aA i)).toNat;let lF:=(aB (aA i_1)).toNat;let vI:=(nameAt none lF);let BX:=(some (List.set (bJ none dG) gJ vI));let eH:=(List.set (bJ BX dG) lF (nameAt none gJ));let BZ:=(rowAt dG (nameAt (some eH) gJ));let NG:=(List.getD (rowAt dG vI) BU 0);asT Bool true=true/\((fZ=true->fZ=true/\fZ=true/\0<=aB (aA i_1)/\aB (aA i_1)<aB (aN none dG)/\True)/\(fZ=true->fZ=true/\Int.toNat (aB (aA i_1))<aN none dG/\True)/\(fZ=true->fZ=true/\fZ=true/\0<=aB (aA i)/\aB (aA i)<aB (rowAt dG vI).length/\True)/\(fZ=true->fZ=true/\Int.toNat (aB (aA i))<List.length (rowAt dG vI)/\True)/\(fZ=true->fZ=true/\isz NG<=1000000000/\True)/\(fZ=true->fZ=true/\True)/\(decide BR=true->fZ=true)/\True)/\ifB (bif decide BR then sgn NG==0 else false) (∃ (i':{ a:Nat // klx x (aA i)<=a/\a<=List.length x/\∀ (i_2:Nat),klx x (aA i)<=i_2->i_2<a->kmx x (aA i) i_2 (aA i)=0 }),List.length x-aA i'<List.length x-aA i_1/\IntKind.wrap IntKind.i64 (aB (aA i_1)+1)=aB (aA i')/\dD x.length 9 (kmx x (aA i))=dD x.length 9 (kmx x (aA i))/\kdx x (aA i)=kdx x (aA i)/\aU (plx x (aA i))=aU (plx x (aA i))/\True) (ifB (decide (aB (aA i_1) ≥ aB (aN none dG))) (∃ (i':{ c:Nat // c<=9 }),9-aA i'<9-aA i/\IntKind.wrap IntKind.i64 (aB (aA i)+1)=aB (aA i')/\dD x.length 9 (kmx x (aA i))=dD x.length 9 (kmx x (aA i'))/\kdx x (aA i)=kdx x (aA i')/\aU (plx x (aA i))=aU (plx x (aA i'))/\True) ((0<=aB (aA i_1)/\aB (aA i_1)<aB (aN none dG)/\Int.toNat (aB (aA i_1))<aN none dG/\0<=aB fJ/\aB fJ<aB (aN none dG)/\Int.toNat (aB fJ)<aN none dG/\0<=aB fJ/\aB fJ<aB (aN none dG)/\Int.toNat (aB fJ)<aN none dG/\0<=aB (aA i_1)/\aB (aA i_1)<aB (aN BX dG)/\Int.toNat (aB (aA i_1))<aN BX dG/\True)/\(0<=aB fJ/\aB fJ<aB (aN (some eH) dG)/\Int.toNat (aB fJ)<aN (some eH) dG/\0<=aB (aA i)/\aB (aA i)<aB BZ.length/\Int.toNat (aB (aA i))<List.length BZ/\True)/\(asT Int 0=0/\List.Nodup eH/\List.map (fun(i_2:Nat)=>List.getD dG i_2 (aG Int)) eH=dD x.length 9 (kTx x (aA i) 0)/\kdx x (aA i)=kdx x (aA i)/\List.getD BZ BU 0=kmx x (aA i) (kpx x (aA i)) (aA i)/\aU (plx x (aA i))=aU (plx x (aA i))/\True)/\∀ (i_2:{ i:Nat // i<=List.length x }),let C₁:=(aB (aA i_2)).toNat;let jV:=(nameAt none C₁);let C₂:=(kxx x (aA i) (aA i_2));let C₃:=(kTx x (aA i) (aA i_2));let rD:=(dD x.length 9 C₃);let oI:=(kUx x (aA i) (aA i_2) 0);asT Bool true=true/\ifB (decide (aB (aA i_2)<aB (aN (some eH) dG))) ((0<=aB (aA i_2)/\aB (aA i_2)<aB (aN none rD)/\Int.toNat (aB (aA i_2))<aN none rD/\0<=aB (aA i)/\aB (aA i)<aB (rowAt rD jV).length/\Int.toNat (aB (aA i))<List.length (rowAt rD jV)/\True)/\ifB (aB (aA i_2)==aB fJ) (∃ (i':{ i:Nat // i<=List.length x }),List.length x-aA i'<List.length x-aA i_2/\IntKind.wrap IntKind.i64 (aB (aA i_2)+1)=aB (aA i')/\dD x.length 9 C₃=dD x.length 9 (kTx x (aA i) (aA i'))/\kdx x (aA i)=kdx x (aA i)/\kmx x (aA i) (kpx x (aA i)) (aA i)=kmx x (aA i) (kpx x (aA i)) (aA i)/\aU (plx x (aA i))=aU (plx x (aA i))/\True) ((asT Int 0=0/\nameAt none C₁=nameAt none C₁/\Int.toNat (aB (aA i))=Int.toNat (aB (aA i))/\List.length rD=List.length (dD x.length 9 oI)/\nameAt none C₁=nameAt none C₁/\List.length rD=List.length (dD x.length 9 oI)/\Int.toNat (aB (aA i_2))=Int.toNat (aB (aA i_2))/\dD x.length 9 C₃=dD x.length 9 oI/\kdx x (aA i)=kdx x (aA i)/\kmx x (aA i) (kpx x (aA i)) (aA i)=kmx x (aA i) (kpx x (aA i)) (aA i)/\List.getD (rowAt rD jV) BU 0=kmx x (aA i) C₂ (aA i)/\aU (plx x (aA i))=aU (plx x (aA i))/\True)/\∀ (i_3:{ j:Nat // j<=9 }),let qB:=(aB (aA i_3)).toNat;let NH:=(kUx x (aA i) (aA i_2) (aA i_3));let eF:=(dD x.length 9 NH);let xB:=(rowAt eF (nameAt none gJ));let vJ:=(kmx x (aA i) (kpx x (aA i)) (aA i)*List.getD (rowAt eF jV) qB 0-kmx x (aA i) C₂ (aA i)*List.getD xB qB 0);let CB:=(List.set (rowAt eF jV) qB (Int.fdiv vJ (kdx x (aA i))));asT Bool true=true/\ifB (decide (aB (aA i_3)<n)) ((0<=aB (aA i_2)/\aB (aA i_2)<aB (aN none eF)/\Int.toNat (aB (aA i_2))<aN none eF/\0<=aB (aA i_3)/\aB (aA i_3)<aB (rowAt eF jV).length/\Int.toNat (aB (aA i_3))<List.length (rowAt eF jV)/\(isz (kmx x (aA i) (kpx x (aA i)) (aA i))<=1000000000/\isz (List.getD (rowAt eF jV) qB 0)<=1000000000)/\0<=aB fJ/\aB fJ<aB (aN none eF)/\Int.toNat (aB fJ)<aN none eF/\0<=aB (aA i_3)/\aB (aA i_3)<aB xB.length/\Int.toNat (aB (aA i_3))<List.length xB/\(isz (kmx x (aA i) C₂ (aA i))<=1000000000/\isz (List.getD xB qB 0)<=1000000000)/\(isz (kmx x (aA i) (kpx x (aA i)) (aA i)*List.getD (rowAt eF jV) qB 0)<=1000000000/\isz (kmx x (aA i) C₂ (aA i)*List.getD xB qB 0)<=1000000000)/\True)/\(0<=aB (aA i_2)/\aB (aA i_2)<aB (aN none eF)/\Int.toNat (aB (aA i_2))<aN none eF/\(isz vJ<=400000000/\isz (kdx x (aA i))<=400000000/\kdx x (aA i)≠0)/\0<=aB (aA i_3)/\aB (aA i_3)<aB (rowAt eF jV).length/\Int.toNat (aB (aA i_3))<List.length (rowAt eF jV)/\True)/\∃ (i':{ j:Nat // j<=9 }),let D₁:=(kUx x (aA i) (aA i_2) (aA i'));9-aA i'<9-aA i_3/\IntKind.wrap IntKind.i64 (aB (aA i_3)+1)=aB (aA i')/\nameAt none C₁=nameAt none C₁/\Int.toNat (aB (aA i))=Int.toNat (aB (aA i))/\List.length (List.set eF jV CB)=List.length (dD x.length 9 D₁)/\nameAt none C₁=nameAt none C₁/\List.length (List.set eF jV CB)=List.length (dD x.length 9 D₁)/\Int.toNat (aB (aA i_2))=Int.toNat (aB (aA i_2))/\List.set eF jV CB=dD x.length 9 D₁/\kdx x (aA i)=kdx x (aA i)/\kmx x (aA i) (kpx x (aA i)) (aA i)=kmx x (aA i) (kpx x (aA i)) (aA i)/\kmx x (aA i) C₂ (aA i)=kmx x (aA i) C₂ (aA i)/\aU (plx x (aA i))=aU (plx x (aA i))/\True) (∃ (i':{ i:Nat // i<=List.length x }),List.length x-aA i'<List.length x-aA i_2/\IntKind.wrap IntKind.i64 (aB (aA i_2)+1)=aB (aA i')/\dD x.length 9 NH=dD x.length 9 (kTx x (aA i) (aA i'))/\kdx x (aA i)=kdx x (aA i)/\kmx x (aA i) (kpx x (aA i)) (aA i)=kmx x (aA i) (kpx x (aA i)) (aA i)/\aU (plx x (aA i))=aU (plx x (aA i))/\True))) ((List.length (aU (plx x (aA i)))+List.length (aB (aA i)::aG Int)<=1000000000/\True)/\∃ (i':{ c:Nat // c<=9 }),9-aA i'<9-aA i/\IntKind.wrap IntKind.i64 (aB (aA i)+1)=aB (aA i')/\dD x.length 9 C₃=dD x.length 9 (kmx x (aA i'))/\kmx x (aA i) (kpx x (aA i)) (aA i)=kdx x (aA i')/\aU (plx x (aA i))++aB (aA i)::aG Int=aU (plx x (aA i'))/\True)))) ((asT Int 0=0/\(True/\asT (List (List aH)) (aG (List aH))=aG (List aH))/\(asT (List (List aH)) (aG (List aH))=aG (List aH)/\0=0/\asT Bool true=true)/\dD x.length 9 (kmx x (aA i))=dD x.length 9 (kmx x 9)/\kdx x (aA i)=kdx x 9/\aU (plx x (aA i))=aU (plx x 9)/\True)/\∀ (i:{ j:Nat // j<=9 }),let D₂:=(aB (aA i)).toNat;let a1y:=(fE (rqM x) (aA i));asT Bool true=true/\ifB (decide (aB (aA i)<n)) ((List.length (aU (plx x 9))<=1000000/\True)/\ifB (List.any (aU (plx x 9)) fun(q:Int)=>q==aB (aA i)) (∃ (i':{ j:Nat // j<=9 }),9-aA i'<9-aA i/\IntKind.wrap IntKind.i64 (aB (aA i)+1)=aB (aA i')/\fE (rqM x) (aA i)=fE (rqM x) (aA i')/\dD x.length 9 (kmx x 9)=dD x.length 9 (kmx x 9)/\kdx x 9=kdx x 9/\aU (plx x 9)=aU (plx x 9)/\True) ((n=n/\0<=n/\n<=1000000000/\True)/\(asT Int 0=0/\fE (rqM x) (aA i)=fE (rqM x) (aA i)/\dD x.length 9 (kmx x 9)=dD x.length 9 (kmx x 9)/\kdx x 9=kdx x 9/\aU (plx x 9)=aU (plx x 9)/\List.replicate n.toNat bF=qM x 0/\True)/\∀ (i_1:{ c:Nat // c<=9 }),let a6A:=(qM x (aA i_1)).length;asT Bool true=true/\ifB (decide (aB (aA i_1)<aB (List.replicate n.toNat bF).length)) ((dU 0/\0<=aB (aA i_1)/\aB (aA i_1)<aB a6A/\Int.toNat (aB (aA i_1))<List.length (qM x (aA i_1))/\True)/\∃ (i':{ c:Nat // c<=9 }),9-aA i'<9-aA i_1/\IntKind.wrap IntKind.i64 (aB (aA i_1)+1)=aB (aA i')/\fE (rqM x) (aA i)=fE (rqM x) (aA i)/\dD x.length 9 (kmx x 9)=dD x.length 9 (kmx x 9)/\kdx x 9=kdx x 9/\aU (plx x 9)=aU (plx x 9)/\List.set (qM x (aA i_1)) (aB (aA i_1)).toNat (dL (bV 0))=qM x (aA i')/\True) ((dU 1/\0<=aB (aA i)/\aB (aA i)<aB a6A/\Int.toNat (aB (aA i))<List.length (qM x (aA i_1))/\True)/\(asT Int 0=0/\Int.toNat (aB (aA i))=Int.toNat (aB (aA i))/\fE (rqM x) (aA i)=fE (rqM x) (aA i)/\dD x.length 9 (kmx x 9)=dD x.length 9 (kmx x 9)/\kdx x 9=kdx x 9/\aU (plx x 9)=aU (plx x 9)/\List.set (qM x (aA i_1)) D₂ (dL (bV 1))=kZ (rqM x) (aA i) 0/\True)/\∀ (i_2:{ t:Nat // t<=List.length (plx x 9) }),let WE:=(aB (aA i_2)).toNat;let NI:=(rowAt A₀ (nameAt none WE));let a1z:=(kZ (rqM x) (aA i) (aA i_2));let a6B:=(List.getD (aU (plx x 9)) WE 0);asT Bool true=true/\ifB (decide (aB (aA i_2)<aB aW)) ((0<=aB (aA i_2)/\aB (aA i_2)<aB aW/\Int.toNat (aB (aA i_2))<List.length (aU (plx x 9))/\True)/\(0<=aB (aA i_2)/\aB (aA i_2)<aB (aN none A₀)/\Int.toNat (aB (aA i_2))<aN none A₀/\0<=aB (aA i)/\aB (aA i)<aB NI.length/\Int.toNat (aB (aA i))<List.length NI/\isz (List.getD NI D₂ 0)<=1000000000/\(isz (-List.getD NI D₂ 0)<=390000000/\isz (kdx x 9)<=390000000)/\0<=List.getD (aU (plx x 9)) WE 0/\List.getD (aU (plx x 9)) WE 0<aB a1z.length/\Int.toNat a6B<List.length a1z/\True)/\∃ (i':{ t:Nat // t<=List.length (plx x 9) }),List.length (plx x 9)-aA i'<List.length (plx x 9)-aA i_2/\IntKind.wrap IntKind.i64 (aB (aA i_2)+1)=aB (aA i')/\Int.toNat (aB (aA i))=Int.toNat (aB (aA i))/\fE (rqM x) (aA i)=fE (rqM x) (aA i)/\dD x.length 9 (kmx x 9)=dD x.length 9 (kmx x 9)/\kdx x 9=kdx x 9/\aU (plx x 9)=aU (plx x 9)/\List.set a1z a6B.toNat (newT 14 (-List.getD NI D₂ 0) (kdx x 9)).1=kZ (rqM x) (aA i) (aA i')/\True) ((List.length a1y+List.length (kZ (rqM x) (aA i) (aA i_2)::aG (List aH))<=1000000000/\True)/\∃ (i':{ j:Nat // j<=9 }),9-aA i'<9-aA i/\IntKind.wrap IntKind.i64 (aB (aA i)+1)=aB (aA i')/\fE (rqM x) (aA i)++kZ (rqM x) (aA i) (aA i_2)::aG (List aH)=fE (rqM x) (aA i')/\dD x.length 9 (kmx x 9)=dD x.length 9 (kmx x 9)/\kdx x 9=kdx x 9/\aU (plx x 9)=aU (plx x 9)/\True)))) ((oJ (fun(x:Ty.den (Ty.list (Ty.lf Lf.iM)))=>dK (oJ (fun(x:Ty.den (Ty.lf Lf.iM))=>dK ((aH.ok x=true)::aG Cd)) x::aG Cd)) a1y/\True)/\List.map (fun(xs:Ty.den (Ty.list (Ty.lf Lf.iM)))=>List.map (fun(x:Ty.den (Ty.lf Lf.iM))=>aH.x x) xs) a1y=sV (rqM x)/\True))):=by
 have hZ:(⟨false,0,[],[]⟩:aH)=bF:=rfl
 try simp only[aF,ak,ah]
 try dsimp only[aB,asT,aA,aG,Ty.den,Lf.den] at *
 try simp only[hZ,Int.toNat_natCast,aF,ak,ah,jo,jm,iq,dh]
 try simp only[cZ,cO,List.all_cons,List.all_nil,jr,gy,iw,jf,ni,ne_eq,au,bg,eu,ig,jh,qh,jy,ql,jo,jm,je,dn,List.length_cons,List.length_nil]
 obtain⟨hk,rfl⟩:=hp
 obtain⟨h1,h64,hr9,hn1⟩:=id hk
 simp only[aN,nameAt,bJ,rowAt,b0E,PE,iq,dh,ak,qh,jo,jm] at *
 have hM:=a2A hk
 have hle:∀ c,klx x c<=x.length:=fun c=>(fH x.length (ent (rqM x)) c).le
 have hpl:∀ c,(plx x c).length=klx x c:=fun _=>rfl
 simp only[hpl]
 have nD:∀ c,kdx x c≠0:=a1V yY
 have c2S:List.length x<=64:=h64
 refine fun i=>⟨fun g1=>⟨⟨by omega,g1⟩,fun c=>⟨fun g2=>?_,fun g2=>?_⟩⟩,fun g1=>⟨⟨by omega,by omega⟩,⟨?_,rfl⟩,fun c=>⟨fun g2=>⟨trivial,fun a=>⟨?_,fun g3=>?_,fun g3=>⟨fun g4=>?_,fun g4=>?_⟩⟩⟩,fun g2=>?_⟩⟩⟩
 ·have hi:i.1<List.length x:=by omega
  have hm:=fO (xs:=x) (d:=[]) hi
  have hc:c.1<(List.getD x i.1 []).length:=by omega
  have hw:=w1 (dB (hn1 _ hm) hc (d:=0))
  refine⟨⟨by omega,g2⟩,⟨hw,by rw[mg];have:=hr9 _ hm;omega⟩,⟨c.1+1,by omega⟩,by simp only;omega,by rw[aS (by have:=hr9 _ hm;omega) (by have:=hr9 _ hm;omega)];rfl,?_⟩
  show _=List.take (c.1+1) _
  rw[Ar,bn (i:=c.1),dw hc];rfl
 ·have hi:i.1<List.length x:=by omega
  have hm:=fO (xs:=x) (d:=[]) hi
  refine⟨by rw[mg];omega,⟨i.1+1,by omega⟩,by simp only;omega,by rw[aS (by omega) (by omega)];rfl,?_⟩
  show _=List.take (i.1+1) x
  rw[jv (l:=List.getD x i.1 []) (by omega),Ar,bn,dw hi];rfl
 ·rw[jv (by omega)];exact c0W hk
 ·have hc:c.1<9:=by omega
  exact⟨fun h=>⟨h,h,by omega,h⟩,fun h=>⟨h,by omega⟩,fun h=>⟨h,h,by omega,by rw[wM (by omega)];omega⟩,fun h=>⟨h,by rw[wM (by omega)];omega⟩,fun h=>⟨h,by rw[zB (by omega) hc];exact jc (JD hk (by omega) (by omega) hc) (by omega)⟩⟩
 ·have hc:c.1<9:=by omega
  have ha:a.1<List.length x:=by omega
  rw[zB ha hc,a2I] at g3
  refine⟨⟨a.1+1,by have:=a.2.1;omega,by omega,fun q h1 h2=>?_⟩,by simp only;omega,by rw[aS (by omega) (by omega)];rfl⟩
  by_cases e:q=a.1
  ·rw[e];exact g3.2
  ·exact a.2.2.2 q h1 (by omega)
 ·have ea:a.1=List.length x:=by have:=a.2.2.1;omega
  have hk2:kpx x c.1=List.length x:=a8C (by have:=a.2.1;omega) (ay _) (fun q h1 h2=>a.2.2.2 q h1 (by omega)) (fun h=>absurd h (by omega))
  obtain⟨e1,e2⟩:=c2t hk2
  have e3:kmx x (c.1+1)=kmx x c.1:=funext fun u=>funext fun v=>by show (kd _ _ (c.1+1)*(red _ _ (c.1+1)).1 u v).num=_;rw[e1,e2];rfl
  refine⟨⟨c.1+1,by omega⟩,by simp only;omega,by rw[aS (by omega) (by omega)];rfl,?_,?_,?_⟩
  ·show _=dD _ 9 (kmx x (c.1+1));rw[e3]
  ·show _=(kd _ _ (c.1+1)).num;rw[e2];rfl
  ·show _=aU (red _ _ (c.1+1)).2;rw[e1];rfl
 ·have hc:c.1<9:=by omega
  have ha:a.1<List.length x:=by omega
  have g5:=g3 (by omega)
  rw[zB ha hc,a2I] at g5
  have hka:kpx x c.1=a.1:=a8C a.2.1 (by omega) a.2.2.2 (fun _=>g5)
  have hne:kpx x c.1≠List.length x:=by omega
  have hra:=a.2.1
  have hr:klx x c.1<List.length x:=by omega
  have hls:=hle c.1
  obtain⟨y1,y2,y3,y4⟩:=a3K hne
  rw[swp_get hr]
  refine⟨⟨by omega,by omega,ha,by omega,by omega,hr,by omega,by omega,hr,by omega,by omega,ha⟩,⟨by omega,by omega,hr,by omega,by rw[wM ha];omega,by rw[wM ha];exact hc⟩,⟨b0B _ hr ha,?_,by rw[zB ha hc,hka]⟩,fun q=>⟨fun g6=>⟨⟨by omega,g6,by omega,by omega,by rw[wM (by omega)];omega,by rw[wM (by omega)];exact hc⟩,fun g7=>?_,fun g7=>⟨⟨?_,?_⟩,fun j=>⟨fun g8=>?_,fun g8=>?_⟩⟩⟩,fun g6=>⟨by omega,⟨c.1+1,by omega⟩,by simp only;omega,by rw[aS (by omega) (by omega)];rfl,?_,?_,?_⟩⟩⟩
  ·rw[b0A hr ha]
   refine pG fun u _ v _=>?_
   rw[c0x]
   show kmx x c.1 (if u=klx x c.1 then a.1 else if u=a.1 then klx x c.1 else u) v=kmx x c.1 (if u=klx x c.1 then kpx x c.1 else if u=kpx x c.1 then klx x c.1 else u) v
   rw[hka]
  ·refine⟨⟨q.1+1,by omega⟩,by simp only;omega,by rw[aS (by omega) (by omega)];rfl,pG fun u _ v _=>?_⟩
   show (if u<q.1 then _ else _)=(if u<q.1+1 then _ else _)
   by_cases e:u<q.1
   ·rw[jl e,jl (by omega)]
   ·rw[jd e]
    by_cases e2:u<q.1+1
    ·rw[jl e2,show u=klx x c.1 by omega,b3U,b3T hne]
    ·rw[jd e2]
  ·refine pG fun u _ v _=>?_
   unfold kTx kUx
   by_cases e:u<q.1
   ·rw[jl e,jl (.inl e)]
   ·rw[jd e,jd (by omega)]
  ·rw[zB (by omega) hc];exact jd (by omega)
  ·have hq:q.1<List.length x:=by omega
   have hj:j.1<9:=by omega
   have e1:kUx x c.1 q.1 j.1 q.1 j.1=kmx x c.1 (kxx x c.1 q.1) j.1:=jd (by omega)
   have s1:=JD hk (c:=c.1) (by omega) (show kpx x c.1<List.length x by omega) hc
   have s2:=JD hk (c:=c.1) (by omega) (a8D hne hq) hj
   have s3:=JD hk (c:=c.1) (by omega) (a8D hne hq) hc
   have s4:=JD hk (c:=c.1) (by omega) (show kpx x c.1<List.length x by omega) hj
   have s5:=a8v hk (c:=c.1) (by omega)
   have m1:=fG (kmx x c.1 (kpx x c.1) c.1) (kmx x c.1 (kxx x c.1 q.1) j.1)
   have m2:=fG (kmx x c.1 (kxx x c.1 q.1) c.1) (kmx x c.1 (kpx x c.1) j.1)
   have m3:=LW (kmx x c.1 (kpx x c.1) c.1*kmx x c.1 (kxx x c.1 q.1) j.1) (kmx x c.1 (kxx x c.1 q.1) c.1*kmx x c.1 (kpx x c.1) j.1)
   rw[zB hq hj,zB hr hj,wM hq,wM hr,c0y hne,e1]
   refine⟨⟨by omega,by omega,hq,by omega,by omega,hj,⟨by omega,by omega⟩,by omega,by omega,hr,by omega,by omega,hj,⟨by omega,by omega⟩,by omega,by omega⟩,⟨by omega,by omega,hq,⟨by omega,by omega,nD _⟩,by omega,by omega,hj⟩,⟨j.1+1,by omega⟩,by simp only;omega,by rw[aS (by omega) (by omega)];rfl,?_⟩
   rw[show (kmx x c.1 (kpx x c.1) c.1*kmx x c.1 (kxx x c.1 q.1) j.1-kmx x c.1 (kxx x c.1 q.1) c.1*kmx x c.1 (kpx x c.1) j.1).fdiv (kdx x c.1)=kmx x (c.1+1) q.1 j.1 from c0z yY hne hq g7 j.1,GK hq,b0F _ hq]
   refine pG fun u _ v _=>?_
   show (if u=q.1/\v=j.1 then _ else (if u<q.1\/u=q.1/\v<j.1 then _ else _))=(if u<q.1\/u=q.1/\v<j.1+1 then _ else _)
   by_cases e:u=q.1/\v=j.1
   ·rw[jl e,jl (by omega),e.1,e.2]
   ·rw[jd e]
    by_cases e2:u<q.1\/u=q.1/\v<j.1
    ·rw[jl e2,jl (by omega)]
    ·rw[jd e2,jd (by omega)]
  ·refine⟨⟨q.1+1,by omega⟩,by simp only;omega,by rw[aS (by omega) (by omega)];rfl,pG fun u _ v hv=>?_⟩
   show (if u<q.1\/u=q.1/\v<j.1 then _ else _)=(if u<q.1+1 then _ else _)
   by_cases e:u<q.1+1
   ·rw[jl e,jl (by omega)]
   ·rw[jd e,jd (by omega)]
  ·refine pG fun u hu v _=>?_
   show (if u<q.1 then _ else _)=_
   rw[jl (by omega)]
  ·exact(b5b yY hne).symm
  ·show aU _++[(c.1:Int)]=aU (red _ _ (c.1+1)).2
   rw[y2];unfold aU;rw[Az];rfl
 ·have hc:c.1=9:=by omega
  rw[hc]
  have hw:wdM (rqM x)=9:=hM.wd
  have hpv:gX (rqM x)=plx x 9:=by unfold gX uZ plx;rw[hM.len,hM.wd]
  have hl9:=hle 9
  have b4R:=hpl 9
  have hkl:(gX (rqM x)).length=klx x 9:=by rw[hpv];exact b4R
  have n2l:∀ j t,(kZ (rqM x) j t).length=9:=fun j t=>by unfold kZ;rw[hw];simp
  have k1l:∀ c,(qM x c).length=9:=fun c=>by unfold qM;rw[hw];simp
  refine⟨⟨rfl,rfl,rfl⟩,fun j=>⟨fun h1=>⟨by omega,fun h2=>?_,fun h2=>⟨by omega,a5E hk,fun c=>⟨fun h3=>?_,fun h3=>⟨?_,?_,fun t=>⟨fun h4=>?_,fun h4=>?_⟩⟩⟩⟩⟩,fun h1=>?_⟩⟩
  ·rw[ER] at h2
   have h2:=vw h2
   refine⟨⟨j.1+1,by omega⟩,by simp only;omega,by rw[aS (by omega) (by omega)];rfl,?_⟩
   show fE (rqM x) j.1=fE (rqM x) (j.1+1)
   unfold fE;rw[a0j (by rw[hpv];exact h2)]
  ·rw[yh] at h3
   rw[k1l]
   exact⟨⟨by decide,by omega,by omega,by omega⟩,⟨c.1+1,by omega⟩,by simp only;omega,by rw[aS (by omega) (by omega)];rfl,a8A x c.1⟩
  ·rw[k1l];exact⟨by decide,by omega,by omega,by omega⟩
  ·rw[yh] at h3
   have hc:c.1=wdM (rqM x):=by have:=c.2;omega
   rw[hc];exact a8z j.1
  ·obtain⟨t,tl⟩:=t
   dsimp only at h4 ⊢
   have ht2:t<klx x 9:=by omega
   have ht:t<(gX (rqM x)).length:=by rw[hkl];exact ht2
   have hj:j.1<9:=by omega
   have q1:=b5e hw ht
   have q2:=b1U (j:=j.1) hk hw ht
   rw[hpv] at q1 q2
   have z1:=JD hk (ay 9) (show t<x.length by omega) hj
   have z2:=a8v hk (ay 9)
   rw[wM (by omega),zB (by omega) hj,n2l,jK]
   refine⟨⟨by omega,by omega,by omega⟩,⟨by omega,by omega,by omega,by omega,by omega,by omega,by omega,⟨by omega,by omega⟩,q1⟩,⟨t+1,by rw[b4R];exact ht2⟩,by simp only;omega,by rw[aS (by omega) (by omega)];rfl,q2⟩
  ·obtain⟨t,tl⟩:=t
   dsimp only at h4 ⊢
   rw[b4R] at tl
   have ht:t=(gX (rqM x)).length:=by rw[hkl];omega
   rw[ER] at h2
   have h2:=vk h2
   rw[<-hpv] at h2
   have hfl:(frees j.1 (gX (rqM x))).length<=j.1:=by unfold frees;have:=List.length_filter_le (fun c=>decide (c ∉ gX (rqM x))) (List.range j.1);simpa using this
   refine⟨by unfold fE;rw[ru];omega,⟨j.1+1,by omega⟩,by simp only;omega,by rw[aS (by omega) (by omega)];rfl,?_⟩
   show fE (rqM x) j.1++[kZ (rqM x) j.1 t]=fE (rqM x) (j.1+1)
   unfold fE
   rw[TQ h2,Az,ht,a0Q _ h2];rfl
  ·have hj:j.1=wdM (rqM x):=by have:=j.2;omega
   rw[hj]
   refine⟨lI.mpr fun r hr=>⟨lI.mpr fun q hq=>?_,trivial⟩,?_⟩
   ·obtain⟨s,_,rfl⟩:=qm.mp hr
    obtain⟨c,_,rfl⟩:=rQ hq
    exact⟨rfl,trivial⟩
   ·unfold fE sV
    rw[List.map_map]
    exact ny fun s _=>QD _ _
noncomputable def c1B:Ctr:=⟨[.list (.list tI),tI],[.list (.list tQ)],fun x=>KX x.1/\(show Int from x.2.1)=9,fun x=>(sV (rqM x.1),())⟩
theorem b1T:aI Tryz.prog 222 c1B:=by
 refine aO (((((((((nil0.ad a1v).ad wV).ad a1w).ad ZF).ad ZC).ad IC).ad VB).ad a6f).ad a3G) ⟨[11,16,18,20],[],[(47,tZ)]⟩ Tryz.func222 rfl (by decide) (fun x=>[.inv {k:Nat // k<=(show LLI from x.1).length} (fun k=>[(29,.val tI (k.1:Int)),(5,.own 47 0),(47,.any),(42,.any)]) (fun k=>[(47,.mat 125 45 tZ none ((show LLI from x.1).take k.1) 0)]) (fun k=>(show LLI from x.1).length-k.1) ⟨0,by omega⟩ (fun k=>[
  .inv {c:Nat // c<=((show LLI from x.1).getD k.1 []).length} (fun c=>[(35,.val tI (c.1:Int)),(8,.own 42 0),(42,.any)]) (fun c=>[(47,.mat 125 45 tZ none ((show LLI from x.1).take k.1) 0),(42,.row 45 tZ (((show LLI from x.1).getD k.1 []).take c.1) 0)]) (fun c=>((show LLI from x.1).getD k.1 []).length-c.1) ⟨0,by omega⟩ (fun _=>[])]),
 .inv {c:Nat // c<=9} (fun c=>[(52,.val tI (c.1:Int)),(12,.own 156 0),(156,.any)]) (fun c=>[(47,.mat 125 45 tZ none (dD (show LLI from x.1).length 9 (kmx (show LLI from x.1) c.1)) 0),(11,.box [⟨tZ,kdx (show LLI from x.1) c.1⟩]),(156,.row 3 tI (aU (plx (show LLI from x.1) c.1)) 0)]) (fun c=>9-c.1) ⟨0,by omega⟩ (fun c=>[
  .inv {a:Nat // klx (show LLI from x.1) c.1<=a/\a<=(show LLI from x.1).length/\∀ i,klx (show LLI from x.1) c.1<=i->i<a->kmx (show LLI from x.1) c.1 i c.1=0} (fun a=>[(15,.val tI (a.1:Int))]) (fun a=>[(47,.mat 125 45 tZ none (dD (show LLI from x.1).length 9 (kmx (show LLI from x.1) c.1)) 0),(11,.box [⟨tZ,kdx (show LLI from x.1) c.1⟩]),(156,.row 3 tI (aU (plx (show LLI from x.1) c.1)) 0)]) (fun a=>(show LLI from x.1).length-a.1) ⟨klx (show LLI from x.1) c.1,ay _,(fH (show LLI from x.1).length (ent (rqM (show LLI from x.1))) c.1).le,fun i h1 h2=>by omega⟩ (fun _=>[]),
  .inv {i:Nat // i<=(show LLI from x.1).length} (fun i=>[(102,.val tI (i.1:Int))]++[(63,.any),(64,.any),(65,.any),(66,.any),(67,.any),(68,.any),(69,.any),(70,.any),(71,.any),(79,.any),(80,.any),(81,.any),(82,.any),(83,.any),(84,.any),(85,.any),(86,.any),(87,.any),(88,.any),(89,.any),(90,.any),(91,.any),(92,.any),(93,.any),(94,.any),(95,.any),(96,.any),(97,.any),(98,.any),(99,.any)]) (fun i=>[(47,.mat 125 45 tZ none (dD (show LLI from x.1).length 9 (kTx (show LLI from x.1) c.1 i.1)) 0),(11,.box [⟨tZ,kdx (show LLI from x.1) c.1⟩]),(16,.box [⟨tZ,kmx (show LLI from x.1) c.1 (kpx (show LLI from x.1) c.1) c.1⟩]),(156,.row 3 tI (aU (plx (show LLI from x.1) c.1)) 0)]) (fun i=>(show LLI from x.1).length-i.1) ⟨0,by omega⟩ (fun i=>[
   .inv {j:Nat // j<=9} (fun j=>[(116,.val tI (j.1:Int))]) (fun j=>[(47,.mat 125 45 tZ none (dD (show LLI from x.1).length 9 (kUx (show LLI from x.1) c.1 i.1 j.1)) 0),(11,.box [⟨tZ,kdx (show LLI from x.1) c.1⟩]),(16,.box [⟨tZ,kmx (show LLI from x.1) c.1 (kpx (show LLI from x.1) c.1) c.1⟩]),(18,.box [⟨tZ,kmx (show LLI from x.1) c.1 (kxx (show LLI from x.1) c.1 i.1) c.1⟩]),(156,.row 3 tI (aU (plx (show LLI from x.1) c.1)) 0)]) (fun j=>9-j.1) ⟨0,by omega⟩ (fun _=>[])])]),
 .inv {j:Nat // j<=9} (fun j=>[(160,.val tI (j.1:Int)),(21,.own 208 0),(208,.any)]) (fun j=>[(208,.row 39 (.list tR) (fE (rqM (show LLI from x.1)) j.1) 0),(47,.mat 125 45 tZ none (dD (show LLI from x.1).length 9 (kmx (show LLI from x.1) 9)) 0),(11,.box [⟨tZ,kdx (show LLI from x.1) 9⟩]),(156,.row 3 tI (aU (plx (show LLI from x.1) 9)) 0)]) (fun j=>9-j.1) ⟨0,by omega⟩ (fun j=>[
  .inv {c:Nat // c<=9} (fun c=>[(170,.val tI (c.1:Int))]) (fun c=>[(208,.row 39 (.list tR) (fE (rqM (show LLI from x.1)) j.1) 0),(47,.mat 125 45 tZ none (dD (show LLI from x.1).length 9 (kmx (show LLI from x.1) 9)) 0),(11,.box [⟨tZ,kdx (show LLI from x.1) 9⟩]),(156,.row 3 tI (aU (plx (show LLI from x.1) 9)) 0),(167,.row 47 tR (qM (show LLI from x.1) c.1) 0)]) (fun c=>9-c.1) ⟨0,by omega⟩ (fun _=>[]),
  .inv {t:Nat // t<=(plx (show LLI from x.1) 9).length} (fun t=>[(184,.val tI (t.1:Int))]) (fun t=>[(208,.row 39 (.list tR) (fE (rqM (show LLI from x.1)) j.1) 0),(47,.mat 125 45 tZ none (dD (show LLI from x.1).length 9 (kmx (show LLI from x.1) 9)) 0),(11,.box [⟨tZ,kdx (show LLI from x.1) 9⟩]),(156,.row 3 tI (aU (plx (show LLI from x.1) 9)) 0),(167,.row 47 tR (kZ (rqM (show LLI from x.1)) j.1 t.1) 0)]) (fun t=>(plx (show LLI from x.1) 9).length-t.1) ⟨0,by omega⟩ (fun _=>[])])]) (fun x hp=>?_)
 obtain⟨x,n,u⟩:=x
 change LLI at x
 change Int at n
 refine aY (let A₀:=(dD x.length 9 (kmx x 9));let A₁:=(asT (List Int) (aG Int)=aG Int/\0=0/\asT Bool true=true);let A₂:=(True/\asT (List Int) (aG Int)=aG Int);let aW:=(aU (plx x 9)).length;(asT Int 0=0/\(True/\asT (List (List Int)) (aG (List Int))=aG (List Int))/\(asT (Option (List Nat)) none=none/\asT (List (List Int)) (aG (List Int))=aG (List Int)/\0=0/\asT Bool true=true)/\True)/\∀ (i:{ k:Nat // k<=List.length x }),let bW:=(List.getD x (aA i) (aG Int));let eU:=(List.getD x (aB (aA i)).toNat (aG Int));asT Bool true=true/\ifB (decide (aB (aA i)<aB x.length)) ((0<=aB (aA i)/\aB (aA i)<aB x.length/\True)/\(asT Int 0=0/\A₂/\List.take (aA i) x=List.take (aA i) x/\A₁/\True)/\∀ (i_1:{ c:Nat // c<=List.length bW }),let gY:=(aB (aA i_1)).toNat;asT Bool true=true/\ifB (decide (aB (aA i_1)<aB eU.length)) ((0<=aB (aA i_1)/\aB (aA i_1)<aB eU.length/\True)/\(dU (List.getD eU gY 0)/\List.length (List.take (aA i_1) bW)+List.length (List.getD eU gY 0::aG Int)<=1000000000/\True)/\∃ (i':{ c:Nat // c<=List.length bW }),List.length bW-aA i'<List.length bW-aA i_1/\IntKind.wrap IntKind.i64 (aB (aA i_1)+1)=aB (aA i')/\List.take (aA i) x=List.take (aA i) x/\List.take (aA i_1) bW++List.getD eU gY 0::aG Int=List.take (aA i') bW/\True) ((aN none (List.take (aA i) x)+1<=1000000000/\True)/\∃ (i':{ k:Nat // k<=List.length x }),List.length x-aA i'<List.length x-aA i/\IntKind.wrap IntKind.i64 (aB (aA i)+1)=aB (aA i')/\List.take (aA i) x++List.take (aA i_1) bW::aG (List Int)=List.take (aA i') x/\True)) ((dU 1/\True)/\(asT Int 0=0/\A₂/\List.take (aA i) x=dD x.length 9 (kmx x 0)/\1=kdx x 0/\A₁/\True)/\∀ (i:{ c:Nat // c<=9 }),let dG:=(dD x.length 9 (kmx x (aA i)));let fJ:=(aU (plx x (aA i))).length;let gJ:=(aB fJ).toNat;asT Bool true=true/\ifB (decide (aB (aA i)<n)) ((aB fJ=aB (klx x (aA i))/\dD x.length 9 (kmx x (aA i))=dD x.length 9 (kmx x (aA i))/\kdx x (aA i)=kdx x (aA i)/\aU (plx x (aA i))=aU (plx x (aA i))/\True)/\∀ (i_1:{ a:Nat // klx x (aA i)<=a/\a<=List.length x/\∀ (i_1:Nat),klx x (aA i)<=i_1->i_1<a->kmx x (aA i) i_1 (aA i)=0 }),let BR:=(aB (aA i_1)<aB (aN none dG));let fZ:=(decide BR==true);let BU:=(aB (aA i)).toNat;let lF:=(aB (aA i_1)).toNat;let vI:=(nameAt none lF);let BX:=(some (List.set (bJ none dG) gJ vI));let eH:=(List.set (bJ BX dG) lF (nameAt none gJ));let BZ:=(rowAt dG (nameAt (some eH) gJ));let NG:=(List.getD (rowAt dG vI) BU 0);asT Bool true=true/\((fZ=true->fZ=true/\fZ=true/\0<=aB (aA i_1)/\aB (aA i_1)<aB (aN none dG)/\True)/\(fZ=true->fZ=true/\Int.toNat (aB (aA i_1))<aN none dG/\True)/\(fZ=true->fZ=true/\fZ=true/\0<=aB (aA i)/\aB (aA i)<aB (rowAt dG vI).length/\True)/\(fZ=true->fZ=true/\Int.toNat (aB (aA i))<List.length (rowAt dG vI)/\True)/\(fZ=true->fZ=true/\isz NG<=1000000000/\True)/\(fZ=true->fZ=true/\True)/\(decide BR=true->fZ=true)/\True)/\ifB (bif decide BR then sgn NG==0 else false) (∃ (i':{ a:Nat // klx x (aA i)<=a/\a<=List.length x/\∀ (i_2:Nat),klx x (aA i)<=i_2->i_2<a->kmx x (aA i) i_2 (aA i)=0 }),List.length x-aA i'<List.length x-aA i_1/\IntKind.wrap IntKind.i64 (aB (aA i_1)+1)=aB (aA i')/\dD x.length 9 (kmx x (aA i))=dD x.length 9 (kmx x (aA i))/\kdx x (aA i)=kdx x (aA i)/\aU (plx x (aA i))=aU (plx x (aA i))/\True) (ifB (decide (aB (aA i_1) ≥ aB (aN none dG))) (∃ (i':{ c:Nat // c<=9 }),9-aA i'<9-aA i/\IntKind.wrap IntKind.i64 (aB (aA i)+1)=aB (aA i')/\dD x.length 9 (kmx x (aA i))=dD x.length 9 (kmx x (aA i'))/\kdx x (aA i)=kdx x (aA i')/\aU (plx x (aA i))=aU (plx x (aA i'))/\True) ((0<=aB (aA i_1)/\aB (aA i_1)<aB (aN none dG)/\Int.toNat (aB (aA i_1))<aN none dG/\0<=aB fJ/\aB fJ<aB (aN none dG)/\Int.toNat (aB fJ)<aN none dG/\0<=aB fJ/\aB fJ<aB (aN none dG)/\Int.toNat (aB fJ)<aN none dG/\0<=aB (aA i_1)/\aB (aA i_1)<aB (aN BX dG)/\Int.toNat (aB (aA i_1))<aN BX dG/\True)/\(0<=aB fJ/\aB fJ<aB (aN (some eH) dG)/\Int.toNat (aB fJ)<aN (some eH) dG/\0<=aB (aA i)/\aB (aA i)<aB BZ.length/\Int.toNat (aB (aA i))<List.length BZ/\True)/\(asT Int 0=0/\List.Nodup eH/\List.map (fun(i_2:Nat)=>List.getD dG i_2 (aG Int)) eH=dD x.length 9 (kTx x (aA i) 0)/\kdx x (aA i)=kdx x (aA i)/\List.getD BZ BU 0=kmx x (aA i) (kpx x (aA i)) (aA i)/\aU (plx x (aA i))=aU (plx x (aA i))/\True)/\∀ (i_2:{ i:Nat // i<=List.length x }),let C₁:=(aB (aA i_2)).toNat;let jV:=(nameAt none C₁);let C₂:=(kxx x (aA i) (aA i_2));let C₃:=(kTx x (aA i) (aA i_2));let rD:=(dD x.length 9 C₃);let oI:=(kUx x (aA i) (aA i_2) 0);asT Bool true=true/\ifB (decide (aB (aA i_2)<aB (aN (some eH) dG))) ((0<=aB (aA i_2)/\aB (aA i_2)<aB (aN none rD)/\Int.toNat (aB (aA i_2))<aN none rD/\0<=aB (aA i)/\aB (aA i)<aB (rowAt rD jV).length/\Int.toNat (aB (aA i))<List.length (rowAt rD jV)/\True)/\ifB (aB (aA i_2)==aB fJ) (∃ (i':{ i:Nat // i<=List.length x }),List.length x-aA i'<List.length x-aA i_2/\IntKind.wrap IntKind.i64 (aB (aA i_2)+1)=aB (aA i')/\dD x.length 9 C₃=dD x.length 9 (kTx x (aA i) (aA i'))/\kdx x (aA i)=kdx x (aA i)/\kmx x (aA i) (kpx x (aA i)) (aA i)=kmx x (aA i) (kpx x (aA i)) (aA i)/\aU (plx x (aA i))=aU (plx x (aA i))/\True) ((asT Int 0=0/\nameAt none C₁=nameAt none C₁/\Int.toNat (aB (aA i))=Int.toNat (aB (aA i))/\List.length rD=List.length (dD x.length 9 oI)/\nameAt none C₁=nameAt none C₁/\List.length rD=List.length (dD x.length 9 oI)/\Int.toNat (aB (aA i_2))=Int.toNat (aB (aA i_2))/\dD x.length 9 C₃=dD x.length 9 oI/\kdx x (aA i)=kdx x (aA i)/\kmx x (aA i) (kpx x (aA i)) (aA i)=kmx x (aA i) (kpx x (aA i)) (aA i)/\List.getD (rowAt rD jV) BU 0=kmx x (aA i) C₂ (aA i)/\aU (plx x (aA i))=aU (plx x (aA i))/\True)/\∀ (i_3:{ j:Nat // j<=9 }),let qB:=(aB (aA i_3)).toNat;let NH:=(kUx x (aA i) (aA i_2) (aA i_3));let eF:=(dD x.length 9 NH);let xB:=(rowAt eF (nameAt none gJ));let vJ:=(kmx x (aA i) (kpx x (aA i)) (aA i)*List.getD (rowAt eF jV) qB 0-kmx x (aA i) C₂ (aA i)*List.getD xB qB 0);let CB:=(List.set (rowAt eF jV) qB (Int.fdiv vJ (kdx x (aA i))));asT Bool true=true/\ifB (decide (aB (aA i_3)<n)) ((0<=aB (aA i_2)/\aB (aA i_2)<aB (aN none eF)/\Int.toNat (aB (aA i_2))<aN none eF/\0<=aB (aA i_3)/\aB (aA i_3)<aB (rowAt eF jV).length/\Int.toNat (aB (aA i_3))<List.length (rowAt eF jV)/\(isz (kmx x (aA i) (kpx x (aA i)) (aA i))<=1000000000/\isz (List.getD (rowAt eF jV) qB 0)<=1000000000)/\0<=aB fJ/\aB fJ<aB (aN none eF)/\Int.toNat (aB fJ)<aN none eF/\0<=aB (aA i_3)/\aB (aA i_3)<aB xB.length/\Int.toNat (aB (aA i_3))<List.length xB/\(isz (kmx x (aA i) C₂ (aA i))<=1000000000/\isz (List.getD xB qB 0)<=1000000000)/\(isz (kmx x (aA i) (kpx x (aA i)) (aA i)*List.getD (rowAt eF jV) qB 0)<=1000000000/\isz (kmx x (aA i) C₂ (aA i)*List.getD xB qB 0)<=1000000000)/\True)/\(0<=aB (aA i_2)/\aB (aA i_2)<aB (aN none eF)/\Int.toNat (aB (aA i_2))<aN none eF/\(isz vJ<=400000000/\isz (kdx x (aA i))<=400000000/\kdx x (aA i)≠0)/\0<=aB (aA i_3)/\aB (aA i_3)<aB (rowAt eF jV).length/\Int.toNat (aB (aA i_3))<List.length (rowAt eF jV)/\True)/\∃ (i':{ j:Nat // j<=9 }),let D₁:=(kUx x (aA i) (aA i_2) (aA i'));9-aA i'<9-aA i_3/\IntKind.wrap IntKind.i64 (aB (aA i_3)+1)=aB (aA i')/\nameAt none C₁=nameAt none C₁/\Int.toNat (aB (aA i))=Int.toNat (aB (aA i))/\List.length (List.set eF jV CB)=List.length (dD x.length 9 D₁)/\nameAt none C₁=nameAt none C₁/\List.length (List.set eF jV CB)=List.length (dD x.length 9 D₁)/\Int.toNat (aB (aA i_2))=Int.toNat (aB (aA i_2))/\List.set eF jV CB=dD x.length 9 D₁/\kdx x (aA i)=kdx x (aA i)/\kmx x (aA i) (kpx x (aA i)) (aA i)=kmx x (aA i) (kpx x (aA i)) (aA i)/\kmx x (aA i) C₂ (aA i)=kmx x (aA i) C₂ (aA i)/\aU (plx x (aA i))=aU (plx x (aA i))/\True) (∃ (i':{ i:Nat // i<=List.length x }),List.length x-aA i'<List.length x-aA i_2/\IntKind.wrap IntKind.i64 (aB (aA i_2)+1)=aB (aA i')/\dD x.length 9 NH=dD x.length 9 (kTx x (aA i) (aA i'))/\kdx x (aA i)=kdx x (aA i)/\kmx x (aA i) (kpx x (aA i)) (aA i)=kmx x (aA i) (kpx x (aA i)) (aA i)/\aU (plx x (aA i))=aU (plx x (aA i))/\True))) ((List.length (aU (plx x (aA i)))+List.length (aB (aA i)::aG Int)<=1000000000/\True)/\∃ (i':{ c:Nat // c<=9 }),9-aA i'<9-aA i/\IntKind.wrap IntKind.i64 (aB (aA i)+1)=aB (aA i')/\dD x.length 9 C₃=dD x.length 9 (kmx x (aA i'))/\kmx x (aA i) (kpx x (aA i)) (aA i)=kdx x (aA i')/\aU (plx x (aA i))++aB (aA i)::aG Int=aU (plx x (aA i'))/\True)))) ((asT Int 0=0/\(True/\asT (List (List aH)) (aG (List aH))=aG (List aH))/\(asT (List (List aH)) (aG (List aH))=aG (List aH)/\0=0/\asT Bool true=true)/\dD x.length 9 (kmx x (aA i))=dD x.length 9 (kmx x 9)/\kdx x (aA i)=kdx x 9/\aU (plx x (aA i))=aU (plx x 9)/\True)/\∀ (i:{ j:Nat // j<=9 }),let D₂:=(aB (aA i)).toNat;let a1y:=(fE (rqM x) (aA i));asT Bool true=true/\ifB (decide (aB (aA i)<n)) ((List.length (aU (plx x 9))<=1000000/\True)/\ifB (List.any (aU (plx x 9)) fun(q:Int)=>q==aB (aA i)) (∃ (i':{ j:Nat // j<=9 }),9-aA i'<9-aA i/\IntKind.wrap IntKind.i64 (aB (aA i)+1)=aB (aA i')/\fE (rqM x) (aA i)=fE (rqM x) (aA i')/\dD x.length 9 (kmx x 9)=dD x.length 9 (kmx x 9)/\kdx x 9=kdx x 9/\aU (plx x 9)=aU (plx x 9)/\True) ((n=n/\0<=n/\n<=1000000000/\True)/\(asT Int 0=0/\fE (rqM x) (aA i)=fE (rqM x) (aA i)/\dD x.length 9 (kmx x 9)=dD x.length 9 (kmx x 9)/\kdx x 9=kdx x 9/\aU (plx x 9)=aU (plx x 9)/\List.replicate n.toNat bF=qM x 0/\True)/\∀ (i_1:{ c:Nat // c<=9 }),let a6A:=(qM x (aA i_1)).length;asT Bool true=true/\ifB (decide (aB (aA i_1)<aB (List.replicate n.toNat bF).length)) ((dU 0/\0<=aB (aA i_1)/\aB (aA i_1)<aB a6A/\Int.toNat (aB (aA i_1))<List.length (qM x (aA i_1))/\True)/\∃ (i':{ c:Nat // c<=9 }),9-aA i'<9-aA i_1/\IntKind.wrap IntKind.i64 (aB (aA i_1)+1)=aB (aA i')/\fE (rqM x) (aA i)=fE (rqM x) (aA i)/\dD x.length 9 (kmx x 9)=dD x.length 9 (kmx x 9)/\kdx x 9=kdx x 9/\aU (plx x 9)=aU (plx x 9)/\List.set (qM x (aA i_1)) (aB (aA i_1)).toNat (dL (bV 0))=qM x (aA i')/\True) ((dU 1/\0<=aB (aA i)/\aB (aA i)<aB a6A/\Int.toNat (aB (aA i))<List.length (qM x (aA i_1))/\True)/\(asT Int 0=0/\Int.toNat (aB (aA i))=Int.toNat (aB (aA i))/\fE (rqM x) (aA i)=fE (rqM x) (aA i)/\dD x.length 9 (kmx x 9)=dD x.length 9 (kmx x 9)/\kdx x 9=kdx x 9/\aU (plx x 9)=aU (plx x 9)/\List.set (qM x (aA i_1)) D₂ (dL (bV 1))=kZ (rqM x) (aA i) 0/\True)/\∀ (i_2:{ t:Nat // t<=List.length (plx x 9) }),let WE:=(aB (aA i_2)).toNat;let NI:=(rowAt A₀ (nameAt none WE));let a1z:=(kZ (rqM x) (aA i) (aA i_2));let a6B:=(List.getD (aU (plx x 9)) WE 0);asT Bool true=true/\ifB (decide (aB (aA i_2)<aB aW)) ((0<=aB (aA i_2)/\aB (aA i_2)<aB aW/\Int.toNat (aB (aA i_2))<List.length (aU (plx x 9))/\True)/\(0<=aB (aA i_2)/\aB (aA i_2)<aB (aN none A₀)/\Int.toNat (aB (aA i_2))<aN none A₀/\0<=aB (aA i)/\aB (aA i)<aB NI.length/\Int.toNat (aB (aA i))<List.length NI/\isz (List.getD NI D₂ 0)<=1000000000/\(isz (-List.getD NI D₂ 0)<=390000000/\isz (kdx x 9)<=390000000)/\0<=List.getD (aU (plx x 9)) WE 0/\List.getD (aU (plx x 9)) WE 0<aB a1z.length/\Int.toNat a6B<List.length a1z/\True)/\∃ (i':{ t:Nat // t<=List.length (plx x 9) }),List.length (plx x 9)-aA i'<List.length (plx x 9)-aA i_2/\IntKind.wrap IntKind.i64 (aB (aA i_2)+1)=aB (aA i')/\Int.toNat (aB (aA i))=Int.toNat (aB (aA i))/\fE (rqM x) (aA i)=fE (rqM x) (aA i)/\dD x.length 9 (kmx x 9)=dD x.length 9 (kmx x 9)/\kdx x 9=kdx x 9/\aU (plx x 9)=aU (plx x 9)/\List.set a1z a6B.toNat (newT 14 (-List.getD NI D₂ 0) (kdx x 9)).1=kZ (rqM x) (aA i) (aA i')/\True) ((List.length a1y+List.length (kZ (rqM x) (aA i) (aA i_2)::aG (List aH))<=1000000000/\True)/\∃ (i':{ j:Nat // j<=9 }),9-aA i'<9-aA i/\IntKind.wrap IntKind.i64 (aB (aA i)+1)=aB (aA i')/\fE (rqM x) (aA i)++kZ (rqM x) (aA i) (aA i_2)::aG (List aH)=fE (rqM x) (aA i')/\dD x.length 9 (kmx x 9)=dD x.length 9 (kmx x 9)/\kdx x 9=kdx x 9/\aU (plx x 9)=aU (plx x 9)/\True)))) ((oJ (fun(x:Ty.den (Ty.list (Ty.lf Lf.iM)))=>dK (oJ (fun(x:Ty.den (Ty.lf Lf.iM))=>dK ((aH.ok x=true)::aG Cd)) x::aG Cd)) a1y/\True)/\List.map (fun(xs:Ty.den (Ty.list (Ty.lf Lf.iM)))=>List.map (fun(x:Ty.den (Ty.lf Lf.iM))=>aH.x x) xs) a1y=sV (rqM x)/\True)))) (by kernel_rfl) ?_
 exact b5f x n hp
end Go.Proofs.YtbkocjmmbkifjaaGreat
