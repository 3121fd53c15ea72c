/-
  Lemmas for the theorem vestimables_holds, part 22 of 36.
-/
import Derived.Test.YtgplhbhfdgempaaGreatQe21
namespace Go.Proofs.YtgplhbhfdgempaaGreat
open Go Go.RowKit
set_option maxRecDepth 100000
set_option maxHeartbeats 1000000
set_option linter.unusedVariables false
set_option linter.unusedSimpArgs false
instance c4y (n:Nat):OfNat (Ty.den tI) n:=inferInstanceAs (OfNat Int n)
abbrev LQ':Type:=List Rat
abbrev lv (l:LQ') (i:Nat):Rat:=l.getD i 0
theorem bF {R C:Nat} {f:Nat->Nat->Rat}:(tab R C f).length=R:=by simp[tab]
theorem jM {R C:Nat} {f:Nat->Nat->Rat} {i:Nat} (h:i<R):(tab R C f).getD i []=(List.range C).map (f i):=by
 simp[tab,bf,h]
theorem mF {R C:Nat} {f:Nat->Nat->Rat} {i j:Nat} (h1:i<R) (h2:j<C):ent (tab R C f) i j=f i j:=by
 show ((tab R C f).getD i []).getD j 0=_
 rw[jM h1];simp[bf,h2]
theorem b2B {R C:Nat} {f:Nat->Nat->Rat}:∀ r ∈ tab R C f,r.length=C:=by
 intro r hr;obtain⟨i,_,rfl⟩:=ug.mp hr;simp
theorem uN {R C:Nat} {f:Nat->Nat->Rat} (r1:1<=R) (r2:R<=64) (c1:1<=C) (c2:C<=64):isM (tab R C f) R C:=⟨bF,b2B,r1,r2,c1,c2⟩
theorem isM.wd {a:MQ} {R C:Nat} (h:isM a R C):wdM a=C:=dY (p:=fun r:List Rat=>r.length=C) h.2.1 (by have:=h.1;have:=h.2.2.1;omega)
theorem isM.row {a:MQ} {R C:Nat} (h:isM a R C) {i:Nat} (hi:i<R):(a.getD i []).length=C:=dY (p:=fun r:List Rat=>r.length=C) h.2.1 (by have:=h.1;omega)
theorem fU {R C:Nat} {f g:Nat->Nat->Rat} (h:∀ i,i<R->∀ j,j<C->f i j=g i j):tab R C f=tab R C g:=by
 unfold tab
 refine jl fun i hi=>jl fun j hj=>h i (vk.mp hi) j (vk.mp hj)
theorem b1Q {a:List Rat} {C:Nat} (h:a.length=C):(List.range C).map (fun j=>a.getD j 0)=a:=by
 apply Bh
 ·simp[h]
 ·intro j h1 h2;simp[bf,h2]
theorem isM.tab {a:MQ} {R C:Nat} (h:isM a R C):Proofs.YtgplhbhfdgempaaGreat.tab R C (ent a)=a:=by
 apply Bh
 ·rw[bF,h.1]
 ·intro i h1 h2
  have hi:i<R:=by rw[<-h.1];exact h2
  have e:(Proofs.YtgplhbhfdgempaaGreat.tab R C (ent a))[i]=(Proofs.YtgplhbhfdgempaaGreat.tab R C (ent a)).getD i []:=by rw[bf,bn h1];rfl
  rw[e,jM hi]
  have e2:a[i]=a.getD i []:=by rw[bf,bn h2];rfl
  rw[e2];exact b1Q (h.row hi)
theorem jH {R C:Nat} {f:Nat->Nat->Rat} {i:Nat} (h:i<R):(aY R C f).getD i []=(List.range C).map (fun c=>fD (f i c)):=by
 simp[aY,bf,h]
theorem map_set {α:Type} (g:Nat->α) (C c:Nat) (v:α):((List.range C).map g).set c v=(List.range C).map (fun d=>if d=c then v else g d):=by
 apply Bh
 ·simp
 ·intro i h1 h2
  rw[List.getElem_set]
  by_cases e:c=i
  ·subst e;simp
  ·rw[iq e];simp[show ¬ i=c by omega]
theorem a3M {R C:Nat} {f:Nat->Nat->Rat} (i:Nat) (g:Nat->Rat):(aY R C f).set i ((List.range C).map fun c=>fD (g c))=aY R C (fun k=>if k=i then g else f k):=by
 unfold aY;rw[map_set]
 refine jl fun k _=>?_
 by_cases e:k=i
 ·simp only[ig e]
 ·simp only[iq e]
theorem lU {R C:Nat} {f g:Nat->Nat->Rat} (h:∀ i,i<R->∀ j,j<C->f i j=g i j):aY R C f=aY R C g:=by
 unfold aY
 refine jl fun i hi=>jl fun j hj=>?_
 rw[h i (vk.mp hi) j (vk.mp hj)]
theorem gZ {α:Type} {g:Nat->α} {C c:Nat} {d:α} (h:c<C):((List.range C).map g).getD c d=g c:=by
 simp[bf,h]
def szM (a:MQ) (K:Nat):Prop:=∀ i,i<a.length->∀ j,j<wdM a->rsz (ent a i j)<=K
def okM (a:MQ):Prop:=isM a a.length (wdM a)/\szM a 100000000
abbrev liftM (a:MQ):MR:=List.map (fun xs=>List.map (fun x=>fD x) xs) a
theorem YN (a:MQ):(liftM a).length=a.length:=by simp
theorem a8c (a:MQ) (i:Nat):(liftM a).getD i []=(a.getD i []).map fD:=by
 simp[bf]
 cases a[i]?<;>rfl
theorem a2S (a:MQ):wdM (liftM a)=wdM a:=by show ((liftM a).getD 0 []).length=(a.getD 0 []).length;rw[a8c,uj]
theorem okM.ent {a:MQ} (h:okM a) {r:List Rat} (hr:r ∈ a) {x:Rat} (hx:x ∈ r):rsz x<=100000000:=by
 obtain⟨i,hi,rfl⟩:=Aw hr
 obtain⟨j,hj,rfl⟩:=Aw hx
 have h1:=h.1.2.1 _ (jv hi)
 have h2:=h.2 i hi j (by rw[<-h1];exact hj)
 have e:Proofs.YtgplhbhfdgempaaGreat.ent a i j=a[i][j]:=by
  show (a.getD i []).getD j 0=_
  rw[show a.getD i []=a[i] by rw[bf,bn hi];rfl,bf,bn hj];rfl
 rwa [e] at h2
theorem NY (x:Rat):(fD x).n<=rsz x/\(fD x).m<=rsz x:=⟨Nat.le_max_left _ _,Nat.le_max_right _ _⟩
theorem okM.short {a:MQ} (h:okM a):iL (liftM a):=by
 refine⟨by have:=h.1.2.2.2.1;simp;omega,fun r hr=>?_⟩
 obtain⟨s,hs,rfl⟩:=ug.mp hr
 refine⟨by have:=h.1.2.1 s hs;have:=h.1.2.2.2.2.2;simp;omega,fun q hq=>?_⟩
 obtain⟨x,hx,rfl⟩:=ug.mp hq
 have h1:=h.ent hs hx
 have ⟨h2,h3⟩:=NY x
 exact⟨by omega,by omega⟩
theorem okM.chk {a:MQ} (h:okM a):eP (liftM a)=0:=by
 obtain⟨⟨h1,h2,h3,h4,h5,h6⟩,_⟩:=h
 have hb:(liftM a).any (badR (wdM a))=false:=by
  refine yj.mpr fun r hr=>?_
  obtain⟨s,hs,rfl⟩:=ug.mp hr
  unfold badR
  have:(List.map (fun x=>fD x) s).any (fun q=>!q.ok)=false:=yj.mpr fun q hq=>by
   obtain⟨x,_,rfl⟩:=ug.mp hq;simp[fD]
  rw[this,uj,h2 s hs];simp
 unfold eP
 rw[YN,a2S,hb,ig ⟨h3,h4,h5,h6,rfl⟩]
def vP (m n:Int) (f:Nat->Nat->Rat) (P:Int->Int->Prop) (Fin:MR->Prop):Prop:=(m=m/\0<=m/\m<=1000000000/\True)/\(asT Int 0=0/\List.replicate m.toNat (aC aF)=List.replicate (Int.toNat m-0) (aC aF)/\True)/\∀ (i:{ k:Nat // k<=Int.toNat m }),asT Bool true=true/\ifB (decide (aB (aA i)<aB (aH none (List.replicate m.toNat (aC aF))))) ((n=n/\0<=n/\n<=1000000000/\0<=aB (aA i)/\aB (aA i)<aB (aH none (aY (aA i) n.toNat f++List.replicate (Int.toNat m-aA i) (aC aF)))/\Int.toNat (aB (aA i))<aH none (aY (aA i) n.toNat f++List.replicate (Int.toNat m-aA i) (aC aF))/\True)/\(0<=aB (aA i)/\aB (aA i)<aB (aH (some (List.set (aV none (aY (aA i) n.toNat f++List.replicate (Int.toNat m-aA i) (aC aF))) (aB (aA i)).toNat (aY (aA i) n.toNat f++List.replicate (Int.toNat m-aA i) (aC aF)).length)) (aY (aA i) n.toNat f++List.replicate (Int.toNat m-aA i) (aC aF)++List.replicate n.toNat { ok:=false,x:=0,g:=aC Nat,h:=aC Nat }::aC (List aF)))/\Int.toNat (aB (aA i))<aH (some (List.set (aV none (aY (aA i) n.toNat f++List.replicate (Int.toNat m-aA i) (aC aF))) (aB (aA i)).toNat (aY (aA i) n.toNat f++List.replicate (Int.toNat m-aA i) (aC aF)).length)) (aY (aA i) n.toNat f++List.replicate (Int.toNat m-aA i) (aC aF)++List.replicate n.toNat { ok:=false,x:=0,g:=aC Nat,h:=aC Nat }::aC (List aF))/\True)/\(asT Int 0=0/\List.Nodup (List.set (aV none (aY (aA i) n.toNat f++List.replicate (Int.toNat m-aA i) (aC aF))) (aB (aA i)).toNat (aY (aA i) n.toNat f++List.replicate (Int.toNat m-aA i) (aC aF)).length)/\List.map (fun(i_1:Nat)=>List.getD (aY (aA i) n.toNat f++List.replicate (Int.toNat m-aA i) (aC aF)++List.replicate n.toNat { ok:=false,x:=0,g:=aC Nat,h:=aC Nat }::aC (List aF)) i_1 (aC aF)) (List.set (aV none (aY (aA i) n.toNat f++List.replicate (Int.toNat m-aA i) (aC aF))) (aB (aA i)).toNat (aY (aA i) n.toNat f++List.replicate (Int.toNat m-aA i) (aC aF)).length)=aY (aA i) n.toNat f++(List.map (fun(j:Nat)=>fD (f (aA i) j)) (List.range 0)++List.replicate (Int.toNat n-0) bU)::aC (List aF)++List.replicate (Int.toNat m-aA i-1) (aC aF)/\True)/\∀ (i_1:{ q:Nat // q<=Int.toNat n }),asT Bool true=true/\ifB (decide (aB (aA i_1)<aB (rowAt (aY (aA i) n.toNat f++List.replicate (Int.toNat m-aA i) (aC aF)++List.replicate n.toNat { ok:=false,x:=0,g:=aC Nat,h:=aC Nat }::aC (List aF)) (nameAt (some (List.set (aV none (aY (aA i) n.toNat f++List.replicate (Int.toNat m-aA i) (aC aF))) (aB (aA i)).toNat (aY (aA i) n.toNat f++List.replicate (Int.toNat m-aA i) (aC aF)).length)) (aB (aA i)).toNat)).length)) ((0<=aB (aA i)/\aB (aA i)<aB (aH none (aY (aA i) n.toNat f++(List.map (fun(j:Nat)=>fD (f (aA i) j)) (List.range (aA i_1))++List.replicate (Int.toNat n-aA i_1) bU)::aC (List aF)++List.replicate (Int.toNat m-aA i-1) (aC aF)))/\Int.toNat (aB (aA i))<aH none (aY (aA i) n.toNat f++(List.map (fun(j:Nat)=>fD (f (aA i) j)) (List.range (aA i_1))++List.replicate (Int.toNat n-aA i_1) bU)::aC (List aF)++List.replicate (Int.toNat m-aA i-1) (aC aF))/\P (aB (aA i)) (aB (aA i_1))/\0<=aB (aA i_1)/\aB (aA i_1)<aB (rowAt (aY (aA i) n.toNat f++(List.map (fun(j:Nat)=>fD (f (aA i) j)) (List.range (aA i_1))++List.replicate (Int.toNat n-aA i_1) bU)::aC (List aF)++List.replicate (Int.toNat m-aA i-1) (aC aF)) (nameAt none (aB (aA i)).toNat)).length/\Int.toNat (aB (aA i_1))<List.length (rowAt (aY (aA i) n.toNat f++(List.map (fun(j:Nat)=>fD (f (aA i) j)) (List.range (aA i_1))++List.replicate (Int.toNat n-aA i_1) bU)::aC (List aF)++List.replicate (Int.toNat m-aA i-1) (aC aF)) (nameAt none (aB (aA i)).toNat))/\True)/\∃ (i':{ q:Nat // q<=Int.toNat n }),Int.toNat n-aA i'<Int.toNat n-aA i_1/\IntKind.wrap IntKind.i64 (aB (aA i_1)+1)=aB (aA i')/\List.set (aY (aA i) n.toNat f++(List.map (fun(j:Nat)=>fD (f (aA i) j)) (List.range (aA i_1))++List.replicate (Int.toNat n-aA i_1) bU)::aC (List aF)++List.replicate (Int.toNat m-aA i-1) (aC aF)) (nameAt none (aB (aA i)).toNat) (List.set (rowAt (aY (aA i) n.toNat f++(List.map (fun(j:Nat)=>fD (f (aA i) j)) (List.range (aA i_1))++List.replicate (Int.toNat n-aA i_1) bU)::aC (List aF)++List.replicate (Int.toNat m-aA i-1) (aC aF)) (nameAt none (aB (aA i)).toNat)) (aB (aA i_1)).toNat (fD (f (aB (aA i)).toNat (aB (aA i_1)).toNat)))=aY (aA i) n.toNat f++(List.map (fun(j:Nat)=>fD (f (aA i) j)) (List.range (aA i'))++List.replicate (Int.toNat n-aA i') bU)::aC (List aF)++List.replicate (Int.toNat m-aA i-1) (aC aF)/\True) (∃ (i':{ k:Nat // k<=Int.toNat m }),Int.toNat m-aA i'<Int.toNat m-aA i/\IntKind.wrap IntKind.i64 (aB (aA i)+1)=aB (aA i')/\aY (aA i) n.toNat f++(List.map (fun(j:Nat)=>fD (f (aA i) j)) (List.range (aA i_1))++List.replicate (Int.toNat n-aA i_1) bU)::aC (List aF)++List.replicate (Int.toNat m-aA i-1) (aC aF)=aY (aA i') n.toNat f++List.replicate (Int.toNat m-aA i') (aC aF)/\True)) (Fin (aY (aA i) n.toNat f++List.replicate (Int.toNat m-aA i) (aC aF)))
theorem nX {R C:Nat} {f:Nat->Nat->Rat} {P:Int->Int->Prop} {Fin:MR->Prop} (r2:R<=1000) (c2:C<=1000) (hP:∀ i j:Nat,i<R->j<C->P i j) (hF:Fin (aY R C f)):vP R C f P Fin:=by
 unfold vP
 have hZ:(⟨false,0,[],[]⟩:aF)=bU:=rfl
 dsimp only[aB,asT,aA,aC] at *
 simp only[hZ,Int.toNat_natCast,aT,ay,au,oh,ny]
 have hX:∀ k,k<=R->(aY k C f++List.replicate (R-k) ([]:List aF)).length=R:=fun k hk=>by rw[iy,aS,Aa];omega
 have hY:∀ k (Z:List aF),k<R->(aY k C f++[Z]++List.replicate (R-k-1) ([]:List aF)).length=R:=fun k Z hk=>by rw[iy,iy,aS,Aa];simp;omega
 refine⟨by omega,by rw[Nat.sub_zero],fun i=>⟨fun h1=>?_,fun h1=>?_⟩⟩
 ·have hi:i.1<R:=by simpa [aH] using h1
  simp only[aH,nameAt,aV,hX i.1 i.2,hY i.1 _ hi,iw,gy]
  have e1:((List.range R).set i.1 R).getD i.1 0=R:=by simp[bf,hi]
  have e2:rowAt (aY i.1 C f++List.replicate (R-i.1) []++[List.replicate C bU]) R=List.replicate C bU:=by
   have:=a6A (T:=[]) (hX i.1 i.2) (List.replicate C bU);rwa [Bc] at this
  have e3:=b0L (aY i.1 C f++List.replicate (R-i.1) []) (List.replicate C bU) (k:=i.1) (by rw[hX i.1 i.2];exact hi)
  rw[hX i.1 i.2,b0M (aS _ _ _) hi] at e3
  rw[e1,e2,e3,Aa]
  refine⟨⟨by omega,by omega,by omega,by omega,hi⟩,⟨by omega,by omega,hi⟩,⟨b3W R i.1,by simp⟩,fun q=>⟨fun h2=>?_,fun h2=>?_⟩⟩
  ·have hq:q.1<C:=by omega
   have hl:(List.map (fun j=>fD (f i.1 j)) (List.range q.1)++List.replicate (C-q.1) bU).length=C:=by simp;omega
   rw[a6A (aS _ _ _),hl]
   refine⟨⟨by omega,by omega,hi,hP _ _ hi hq,by omega,by omega,hq⟩,⟨q.1+1,by omega⟩,by simp only;omega,by rw[aZ (by omega) (by omega)];rfl,?_⟩
   rw[b0O (aS _ _ _),b0N (fun j=>fD (f i.1 j)) bU hq]
  ·have hq:q.1=C:=by have:=q.2;omega
   refine⟨⟨i.1+1,by omega⟩,by simp only;omega,by rw[aZ (by omega) (by omega)];rfl,?_⟩
   rw[hq,Nat.sub_self,List.replicate_zero,Bc,a8K,Nat.sub_sub]
 ·have hi:i.1=R:=by have:=i.2;simp only[aH,Aa] at h1;omega
  rw[hi,Nat.sub_self,List.replicate_zero,Bc]
  exact hF
def uJ (m n:Int) (f:Nat->Nat->Rat):List Ann:=[.inv {k:Nat // k<=m.toNat} (fun k=>[(14,.val tI (k.1:Int))]) (fun k=>[(11,.mat 32 64 tR none (aY k.1 n.toNat f++List.replicate (m.toNat-k.1) []) 0)]) (fun k=>m.toNat-k.1) ⟨0,by omega⟩ (fun k=>[
 .inv {q:Nat // q<=n.toNat} (fun q=>[(27,.val tI (q.1:Int)),(20,.any),(21,.any),(24,.any),(25,.any)]) (fun q=>[(11,.mat 32 64 tR none (aY k.1 n.toNat f++[(List.range q.1).map (fun j=>fD (f k.1 j))++List.replicate (n.toNat-q.1) bU]++List.replicate (m.toNat-k.1-1) []) 0)]) (fun q=>n.toNat-q.1) ⟨0,by omega⟩ (fun _=>[])])]
abbrev LKm:LK:=.mat 32 64 tR
def a0p (T:List Ty) (ok:(nest T).den->Int->Int->Prop) (g:(nest T).den->Nat->Nat->Rat):Ctr:=⟨tI::tI::T,[tQ],fun x=>ok x.2.2 x.1 x.2.1,fun x=>(g x.2.2 (show Int from x.1).toNat (show Int from x.2.1).toNat,())⟩
def DI (T:List Ty) (ok:(nest T).den->Int->Int->Prop) (x:(nest [tI,tI,nest T]).den):Prop:=∃ R C:Nat,(show Int from x.1)=R/\(show Int from x.2.1)=C/\R<=1000/\C<=1000/\∀ i j:Nat,i<R->j<C->ok x.2.2.1 i j
def KU (F:FuncId) (T:List Ty) (ok:(nest T).den->Int->Int->Prop) (g:(nest T).den->Nat->Nat->Rat):BJ:=.mk LKm [tI,tI,.clo F (nest T)] (fun x=>DI T ok x) (fun x=>aY (show Int from x.1).toNat (show Int from x.2.1).toNat (g x.2.2.1))
def sm:Nat->(Nat->Rat)->Rat
 | 0,_=>0
 | n+1,f=>sm n f+f n
theorem fE {f g:Nat->Rat}:∀ n,(∀ i,i<n->f i=g i)->sm n f=sm n g
 | 0,_=>rfl
 | n+1,h=>by show sm n f+f n=sm n g+g n;rw[fE n (fun i hi=>h i (by omega)),h n (by omega)]
theorem kL {f:Nat->Rat}:∀ n,(∀ i,i<n->f i=0)->sm n f=0
 | 0,_=>rfl
 | n+1,h=>by show sm n f+f n=0;rw[kL n (fun i hi=>h i (by omega)),h n (by omega)];grind
theorem zW (f g:Nat->Rat):∀ n,sm n (fun i=>f i+g i)=sm n f+sm n g
 | 0=>by show (0:Rat)=0+0;grind
 | n+1=>by show sm n _+(f n+g n)=(sm n f+f n)+(sm n g+g n);rw[zW f g n];grind
theorem OE (k:Rat) (f:Nat->Rat):∀ n,sm n (fun i=>k*f i)=k*sm n f
 | 0=>by show (0:Rat)=k*0;grind
 | n+1=>by show sm n _+k*f n=k*(sm n f+f n);rw[OE k f n];grind
theorem a1w (k:Rat) (f:Nat->Rat) (n:Nat):sm n (fun i=>f i*k)=sm n f*k:=by
 rw[show (fun i=>f i*k)=(fun i=>k*f i) from funext fun i=>by grind,OE];grind
theorem VU (f g:Nat->Rat) (n:Nat):sm n (fun i=>f i-g i)=sm n f-sm n g:=by
 rw[show (fun i=>f i-g i)=(fun i=>f i+(-1)*g i) from funext fun i=>by grind,zW f (fun i=>(-1)*g i),OE];grind
theorem a1x (f:Nat->Nat->Rat) (m:Nat):∀ n,sm n (fun i=>sm m (fun j=>f i j))=sm m (fun j=>sm n (fun i=>f i j))
 | 0=>(kL m (fun j _=>rfl)).symm
 | n+1=>by
  show sm n (fun i=>sm m (fun j=>f i j))+sm m (fun j=>f n j)=sm m (fun j=>sm n (fun i=>f i j)+f n j)
  rw[a1x f m n,zW]
theorem EC {f:Nat->Rat} (k:Nat):∀ n,k<n->(∀ i,i<n->i≠k->f i=0)->sm n f=f k
 | 0,h,_=>by omega
 | n+1,h,hz=>by
  show sm n f+f n=f k
  by_cases e:k=n
  ·rw[kL n (fun i hi=>hz i (by omega) (by omega)),e];grind
  ·rw[EC k n (by omega) (fun i hi hk=>hz i (by omega) hk),hz n (by omega) (by omega)];grind
theorem ZN {f:Nat->Rat}:∀ n,(∀ i,i<n->0<=f i)->0<=sm n f
 | 0,_=>by show (0:Rat)<=0;grind
 | n+1,h=>by
  have h1:=ZN n (fun i hi=>h i (by omega));have h2:=h n (by omega)
  show 0<=sm n f+f n;grind
theorem OB {x:Rat} (h:x≠0):x / x=1:=by rw[Rat.div_def,Rat.mul_inv_cancel x h]
theorem sq_nonneg (x:Rat):0<=x*x:=by
 rcases Rat.le_total (a:=0) (b:=x) with h|h
 ·exact Rat.mul_nonneg h h
 ·have:=Rat.mul_nonneg (a:=-x) (b:=-x) (by grind) (by grind);grind
theorem b5I {f:Nat->Rat}:∀ n,sm n (fun i=>f i*f i)=0->∀ i,i<n->f i=0
 | 0,_,i,h=>by omega
 | n+1,h,i,hi=>by
  have h1:=ZN (f:=fun i=>f i*f i) n (fun i _=>sq_nonneg (f i))
  have h2:=sq_nonneg (f n)
  have h:sm n (fun i=>f i*f i)+f n*f n=0:=h
  have h3:sm n (fun i=>f i*f i)=0:=by grind
  have h4:f n*f n=0:=by grind
  by_cases e:i=n
  ·rw[e];grind
  ·exact b5I n h3 i (by omega)
theorem a5o (f:Nat->Rat) (m:Nat):∀ n,sm (m+n) f=sm m f+sm n (fun i=>f (m+i))
 | 0=>by show sm m f=sm m f+0;grind
 | n+1=>by show sm (m+n) f+f (m+n)=sm m f+(sm n (fun i=>f (m+i))+f (m+n));rw[a5o f m n];grind
abbrev Mt:=Nat->Nat->Rat
def mm (n:Nat) (a b:Mt):Mt:=fun i j=>sm n fun k=>a i k*b k j
def mv (n:Nat) (a:Mt) (x:Nat->Rat):Nat->Rat:=fun i=>sm n fun k=>a i k*x k
def tr (a:Mt):Mt:=fun i j=>a j i
def idm:Mt:=fun i j=>if i=j then 1 else 0
def fk (e:Mt) (j:Nat):Nat->Nat->Nat
 | r,0=>r
 | r,n+1=>if e r j=0 then fk e j (r+1) n else r
theorem YD (e:Mt) (j:Nat):∀ n r,r<=fk e j r n/\fk e j r n<=r+n
 | 0,r=>⟨aj _,aj _⟩
 | n+1,r=>by
  have:=YD e j n (r+1)
  unfold fk;split<;>omega
theorem QL (e:Mt) (j:Nat):∀ n r i,r<=i->i<fk e j r n->e i j=0
 | 0,r,i,h1,h2=>by unfold fk at h2;omega
 | n+1,r,i,h1,h2=>by
  unfold fk at h2;split at h2
  ·rename_i h0
   by_cases h:i=r
   ·rw[h];exact h0
   ·exact QL e j n (r+1) i (by omega) h2
  ·omega
theorem a2p (e:Mt) (j:Nat):∀ n r,fk e j r n<r+n->e (fk e j r n) j≠0
 | 0,r,h=>by unfold fk at h;omega
 | n+1,r,h=>by
  unfold fk at h ⊢;split at h
  ·rename_i h0;rw[ig h0];exact a2p e j n (r+1) (by omega)
  ·rename_i h0;rw[iq h0];exact h0
theorem a2o (e:Mt) (j r n k:Nat) (h1:r<=k) (h2:k<=r+n) (hz:∀ i,r<=i->i<k->e i j=0) (hn:k<r+n->e k j≠0):fk e j r n=k:=by
 have ⟨a1,a2⟩:=YD e j n r
 rcases Nat.lt_trichotomy (fk e j r n) k with h|h|h
 ·exact absurd (hz _ a1 h) (a2p e j n r (by omega))
 ·exact h
 ·exact absurd (QL e j n r k h1 h) (hn (by omega))
theorem a9P {e f:Mt} {j:Nat} (n r:Nat) (h:∀ i,r<=i->i<r+n->e i j=f i j):fk e j r n=fk f j r n:=by
 have ⟨a1,a2⟩:=YD f j n r
 refine a2o e j r n _ a1 a2 (fun i h1 h2=>?_) (fun h1=>?_)
 ·rw[h i h1 (by omega)];exact QL f j n r i h1 h2
 ·rw[h _ a1 h1];exact a2p f j n r h1
def iO (e:Mt) (r k:Nat):Mt:=fun i=>if i=r then e k else if i=k then e r else e i
def kR (e:Mt) (r k j:Nat):Mt:=fun i c=>if i=r then e k c / e k j else iO e r k i c-iO e r k i j*(e k c / e k j)
def red (R:Nat) (e:Mt):Nat->Mt × List Nat
 | 0=>(e,[])
 | n+1 =>
  if fk (red R e n).1 n (red R e n).2.length (R-(red R e n).2.length)=R then red R e n
  else (kR (red R e n).1 (red R e n).2.length (fk (red R e n).1 n (red R e n).2.length (R-(red R e n).2.length)) n,(red R e n).2++[n])
structure Ech (R:Nat) (e:Mt) (n:Nat) (m:Mt) (p:List Nat):Prop where
 le:p.length<=R
 lt:∀ j ∈ p,j<n
 nd:p.Nodup
 unit:∀ t (h:t<p.length) i,i<R->m i p[t]=if i=t then 1 else 0
 rest:∀ i,p.length<=i->i<R->∀ c,c<n->m i c=0
 sol:∀ C (x:Nat->Rat),(∀ i,i<R->mv C e x i=0)↔(∀ i,i<R->mv C m x i=0)
theorem a1z (m:Mt) (r k j C:Nat) (x:Nat->Rat) (i:Nat):mv C (kR m r k j) x i=if i=r then mv C m x k / m k j else mv C (iO m r k) x i-iO m r k i j*(mv C m x k / m k j):=by
 unfold mv kR
 by_cases h:i=r
 ·simp only[ig h]
  rw[show (fun c=>m k c / m k j*x c)=(fun c=>m k c*x c*(m k j)⁻¹) from funext fun c=>by rw[Rat.div_def];grind,a1w,Rat.div_def]
 ·simp only[iq h]
  rw[show (fun c=>(iO m r k i c-iO m r k i j*(m k c / m k j))*x c)=(fun c=>iO m r k i c*x c-(iO m r k i j*(m k j)⁻¹)*(m k c*x c)) from funext fun c=>by rw[Rat.div_def];grind,VU (fun c=>iO m r k i c*x c) (fun c=>(iO m r k i j*(m k j)⁻¹)*(m k c*x c)),OE,Rat.div_def];grind
theorem b2l (m:Mt) (R r k j C:Nat) (x:Nat->Rat) (hr:r<R) (hk:k<R) (hz:m k j≠0):(∀ i,i<R->mv C m x i=0)↔(∀ i,i<R->mv C (kR m r k j) x i=0):=by
 have hsw:∀ i,mv C (iO m r k) x i=if i=r then mv C m x k else if i=k then mv C m x r else mv C m x i:=fun i=>by
  unfold mv iO;by_cases h1:i=r
  ·simp only[ig h1]
  ·by_cases h2:i=k
   ·simp only[iq h1,ig h2]
   ·simp only[iq h1,iq h2]
 constructor
 ·intro h i hi
  rw[a1z,hsw,h k hk]
  split
  ·rw[Rat.div_def];grind
  ·have:=h i hi;have:=h r hr;rw[Rat.div_def];split<;>grind
 ·intro h
  have h1:=h r hr
  rw[a1z,ig rfl,Rat.div_def] at h1
  have hkz:mv C m x k=0:=by
   have:mv C m x k=mv C m x k*(m k j)⁻¹*m k j:=by rw[Rat.mul_assoc,Rat.inv_mul_cancel _ hz];grind
   rw[this,h1];grind
  have hA:∀ i,i<R->i≠r->(if i=k then mv C m x r else mv C m x i)=0:=fun i hi hir=>by
   have:=h i hi
   rw[a1z,iq hir,hsw,iq hir,hkz,Rat.div_def] at this
   grind
  intro i hi
  by_cases e1:i=k
  ·rw[e1];exact hkz
  ·by_cases e2:i=r
   ·have:=hA k hk (by omega)
    rw[ig rfl] at this;rw[e2];exact this
   ·have:=hA i hi e2
    rw[iq e1] at this;exact this
theorem jD (R:Nat) (e:Mt):∀ n,Ech R e n (red R e n).1 (red R e n).2
 | 0=>⟨uq _,fun j h=>(nomatch h),List.nodup_nil,fun t h=>absurd h (Nat.not_lt_zero _),fun i _ _ c h=>absurd h (Nat.not_lt_zero _),fun _ _=>Iff.rfl⟩
 | n+1=>by
  have ih:=jD R e n
  rw[show red R e (n+1)=(if fk (red R e n).1 n (red R e n).2.length (R-(red R e n).2.length)=R then ((red R e n).1,(red R e n).2) else (kR (red R e n).1 (red R e n).2.length (fk (red R e n).1 n (red R e n).2.length (R-(red R e n).2.length)) n,(red R e n).2++[n])) from rfl]
  generalize (red R e n).1=m at *
  generalize (red R e n).2=p at *
  generalize hk:fk m n p.length (R-p.length)=k
  have ⟨k1,k2⟩:=YD m n (R-p.length) p.length
  have k3:=QL m n (R-p.length) p.length
  have k4:=a2p m n (R-p.length) p.length
  rw[hk] at k1 k2 k3 k4
  have hle:=ih.le
  by_cases hR:k=R
  ·rw[ig hR]
   exact⟨ih.le,fun j hj=>Nat.lt_succ_of_lt (ih.lt j hj),ih.nd,ih.unit,fun i h1 h2 c hc=>by
    by_cases e1:c=n
    ·rw[e1];exact k3 i h1 (by omega)
    ·exact ih.rest i h1 h2 c (by omega),ih.sol⟩
  ·rw[iq hR]
   have hz:m k n≠0:=k4 (by omega)
   refine⟨by simp;omega,fun j hj=>?_,?_,fun t ht i hi=>?_,fun i h1 h2 c hc=>?_,fun C x=>?_⟩
   ·rcases vg.mp hj with h|h
    ·exact Nat.lt_succ_of_lt (ih.lt j h)
    ·rw[qh.mp h];omega
   ·refine List.nodup_append.mpr ⟨ih.nd,by simp,fun a ha b hb=>?_⟩
    have:=ih.lt a ha;rw[qh.mp hb];omega
   ·have ht:t<p.length+1:=by simpa using ht
    show kR m p.length k n i (p++[n])[t]=_
    by_cases e1:t=p.length
    ·have hc:(p++[n])[t]=n:=by simp[e1]
     rw[hc,e1];unfold kR
     by_cases e2:i=p.length
     ·rw[ig e2,ig e2];exact OB hz
     ·rw[iq e2,iq e2,OB hz];grind
    ·have hl:t<p.length:=by omega
     have hc:(p++[n])[t]=p[t]:=by rw[List.getElem_append_left hl]
     have hkt:=ih.unit t hl k (by omega)
     rw[iq (show ¬ k=t by omega)] at hkt
     rw[hc];unfold kR iO
     rw[hkt]
     by_cases e2:i=p.length
     ·rw[ig e2,iq (by omega),Rat.div_def];grind
     ·simp only[iq e2]
      by_cases e3:i=k
      ·simp only[ig e3]
       rw[ih.unit t hl p.length (by omega),iq (by omega),iq (by omega),Rat.div_def];grind
      ·simp only[iq e3]
       rw[ih.unit t hl i hi,Rat.div_def];grind
   ·have h1:p.length+1<=i:=by simpa using h1
    show kR m p.length k n i c=0
    have hsz:∀ c,c<n->iO m p.length k i c=0:=fun c hc=>by
     unfold iO;rw[iq (by omega)]
     split
     ·exact ih.rest p.length (aj _) (by omega) c hc
     ·exact ih.rest i (by omega) h2 c hc
    unfold kR;rw[iq (by omega)]
    by_cases e1:c=n
    ·rw[e1,OB hz];grind
    ·rw[hsz c (by omega),ih.rest k k1 (by omega) c (by omega),Rat.div_def];grind
   ·rw[ih.sol C x];exact b2l m R p.length k n C x (by omega) (by omega) hz
section
theorem xX {p:List Nat} (h:p.Nodup) {t:Nat} (ht:t<p.length):p.idxOf p[t]=t:=by
 have h1:p.idxOf p[t]<p.length:=List.idxOf_lt_length_iff.mpr (jv ht)
 have h2:p[p.idxOf p[t]]=p[t]:=List.getElem_idxOf h1
 exact(List.getElem_inj h).mp h2
theorem a1a {p:List Nat} {c:Nat} (h:c ∈ p):p.idxOf c<p.length/\p.getD (p.idxOf c) 0=c:=by
 have h1:p.idxOf c<p.length:=List.idxOf_lt_length_iff.mpr h
 refine⟨h1,?_⟩
 rw[bf,bn h1];exact List.getElem_idxOf h1
theorem b2g {n:Nat}:∀ (p:List Nat),p.Nodup->(∀ j ∈ p,j<n)->sm n (fun c=>if c ∈ p then 1 else 0)=(p.length:Nat)
 | [],_,_=>kL n (fun c _=>rfl)
 | a::p,hd,hl=>by
  have h1:=b2g p (List.nodup_cons.mp hd).2 (fun j hj=>hl j (jf _ hj))
  have h2:sm n (fun c=>if c=a then (1:Rat) else 0)=1:=by
   rw[EC a n (hl a (jk ..)) (fun i _ hi=>iq hi),ig rfl]
  have h3:=(List.nodup_cons.mp hd).1
  rw[show (fun c=>if c ∈ a::p then (1:Rat) else 0)=(fun c=>(if c=a then (1:Rat) else 0)+(if c ∈ p then 1 else 0)) from funext fun c=>by
   by_cases e:c=a
   ·subst e;rw[ig (jk ..),ig rfl,iq h3];grind
   ·by_cases e2:c ∈ p
    ·rw[ig (jf _ e2),iq e,ig e2];grind
    ·rw[iq (by simp[e,e2]),iq e,iq e2];grind,zW,h1,h2,List.length_cons]
  grind
theorem a7l:∀ n,sm n (fun _=>1)=(n:Nat)
 | 0=>rfl
 | n+1=>by show sm n (fun _=>1)+1=_;rw[a7l n];grind
def frees (n:Nat) (p:List Nat):List Nat:=(List.range n).filter (fun c=>decide (c ∉ p))
theorem a7k (p:List Nat):∀ n,sm n (fun c=>if c ∈ p then 0 else 1)=((frees n p).length:Nat)
 | 0=>rfl
 | n+1=>by
  show sm n (fun c=>if c ∈ p then 0 else 1)+(if n ∈ p then 0 else 1)=_
  rw[a7k p n]
  unfold frees
  rw[Bv,List.filter_append,iy]
  by_cases h:n ∈ p
  ·simp[h];grind
  ·simp[h]
theorem EP {n:Nat} {p:List Nat} (hd:p.Nodup) (hl:∀ j ∈ p,j<n):(frees n p).length+p.length=n:=by
 have h1:=b2g p hd hl
 have h2:=a7k p n
 have h3:=a7l n
 have h4:=zW (fun c=>if c ∈ p then (1:Rat) else 0) (fun c=>if c ∈ p then (0:Rat) else 1) n
 rw[show (fun c=>(if c ∈ p then (1:Rat) else 0)+(if c ∈ p then (0:Rat) else 1))=(fun _=>1) from funext fun c=>by split<;>grind,h1,h2,h3] at h4
 have h5:((n:Nat):Rat)=((p.length+(frees n p).length:Nat):Rat):=by rw[h4];push_cast;rfl
 have:=Rat.natCast_inj.mp h5
 omega
theorem NC {n:Nat} {p:List Nat} {c:Nat}:c ∈ frees n p↔c<n/\c ∉ p:=by unfold frees;simp
section
variable {R n:Nat} {e m:Mt} {p:List Nat}
theorem Ech.row (E:Ech R e n m p) {t:Nat} (ht:t<p.length) (x:Nat->Rat):mv n m x t=x p[t]+sm n (fun c=>if c ∈ p then 0 else m t c*x c):=by
 have hl:=E.le
 have h1:sm n (fun c=>if c ∈ p then m t c*x c else 0)=x p[t]:=by
  rw[EC p[t] n (E.lt _ (jv ht)) (fun c _ hc=>?_),ig (jv ht),E.unit t ht t (by omega),ig rfl]
  ·grind
  ·by_cases h:c ∈ p
   ·rw[ig h]
    have ⟨a1,a2⟩:=a1a h
    have a3:p[p.idxOf c]=c:=List.getElem_idxOf a1
    have:=E.unit (p.idxOf c) a1 t (by omega)
    rw[a3,iq (fun h=>hc (by rw[<-a3];congr 1;exact h.symm))] at this
    rw[this];grind
   ·rw[iq h]
 rw[<-h1,<-zW]
 exact fE n fun c _=>by split<;>grind
theorem Ech.low (E:Ech R e n m p) {i:Nat} (h1:p.length<=i) (h2:i<R) (x:Nat->Rat):mv n m x i=0 :=
 kL n fun c hc=>by rw[E.rest i h1 h2 c hc];grind
def QF (m:Mt) (p:List Nat) (j:Nat):Nat->Rat:=fun c=>if c=j then 1 else if c ∈ p then-m (p.idxOf c) j else 0
theorem YU (m:Mt) (p:List Nat) (j:Nat):QF m p j j=1:=ig rfl
theorem a8i {m:Mt} {p:List Nat} {j c:Nat} (h:c ∉ p):QF m p j c=if c=j then 1 else 0:=by
 unfold QF;rw[iq h]
theorem b1i (E:Ech R e n m p) {j t:Nat} (ht:t<p.length) (hj:j ∉ p):QF m p j p[t]=- m t j:=by
 unfold QF
 rw[iq (fun h=>hj (by rw[<-h];exact jv ht)),ig (jv ht),xX E.nd ht]
theorem Ech.null (E:Ech R e n m p) {j:Nat} (hn:j<n) (hj:j ∉ p):∀ i,i<R->mv n e (QF m p j) i=0:=by
 refine(E.sol n _).mpr fun i hi=>?_
 by_cases h:i<p.length
 ·rw[E.row h,b1i E h hj,EC j n hn (fun c _ hc=>?_),iq hj,YU]
  ·grind
  ·split
   ·rfl
   ·rename_i h;rw[a8i h,iq hc];grind
 ·exact E.low (by omega) hi _
theorem Ech.span (E:Ech R e n m p) {x:Nat->Rat} (hx:∀ i,i<R->mv n e x i=0) (hf:∀ c,c<n->c ∉ p->x c=0):∀ c,c<n->x c=0:=by
 intro c hc
 by_cases h:c ∈ p
 ·have ⟨a1,a2⟩:=a1a h
  have a3:p[p.idxOf c]=c:=List.getElem_idxOf a1
  have h1:=(E.sol n x).mp hx (p.idxOf c) (ni a1 E.le)
  rw[E.row a1,a3,kL n (fun c hc=>?_)] at h1
  ·grind
  ·split
   ·rfl
   ·rename_i h;rw[hf c hc h];grind
 ·exact hf c hc h
theorem Ech.full (E:Ech R e n m p) (h:p.length=n) {c:Nat} (hc:c<n):c ∈ p:=by
 have h1:=EP E.nd E.lt
 by_cases hm:c ∈ p
 ·exact hm
 ·have:=List.length_pos_of_mem (NC.mpr ⟨hc,hm⟩);omega
theorem Ech.inj (E:Ech R e n m p):p.length=n↔∀ x,(∀ i,i<R->mv n e x i=0)->∀ c,c<n->x c=0:=by
 constructor
 ·intro h x hx
  exact E.span hx (fun c hc hn=>absurd (E.full h hc) hn)
 ·intro h
  have h1:=EP E.nd E.lt
  rcases yu (frees n p).length with h0|h0
  ·omega
  ·have ⟨h2,h3⟩:=NC.mp (jv h0)
   have:=h _ (E.null h2 h3) _ h2
   rw[YU] at this;exact absurd this (by decide)
theorem Ech.col (E:Ech R e n m p) {q:Nat} (hq:n<=q) (x:Nat->Rat):(∀ i,i<R->mv n e x i=e i q)↔(∀ i,i<R->mv n m x i=m i q):=by
 have key:∀ (a:Mt) i,mv (q+1) a (fun c=>if c<n then x c else if c=q then -1 else 0) i=mv n a x i-a i q:=fun a i=>by
  unfold mv
  show sm q _+_=_
  obtain⟨d,rfl⟩:∃ d,q=n+d:=⟨q-n,by omega⟩
  rw[a5o,kL d (fun c hc=>?_),fE n (g:=fun k=>a i k*x k) (fun c hc=>by simp only[ig hc])]
  ·simp only[iq (show ¬ n+d<n by omega)];simp only[Dn];grind
  ·simp only[iq (show ¬ n+c<n by omega),iq (show ¬ n+c=n+d by omega)];grind
 have h:=E.sol (q+1) (fun c=>if c<n then x c else if c=q then -1 else 0)
 simp only[key] at h
 constructor
 ·intro h1 i hi;have:=h.mp (fun i hi=>by rw[h1 i hi];grind) i hi;grind
 ·intro h1 i hi;have:=h.mpr (fun i hi=>by rw[h1 i hi];grind) i hi;grind
def xs (m:Mt) (p:List Nat) (q:Nat):Nat->Rat:=fun c=>if c ∈ p then m (p.idxOf c) q else 0
theorem Ech.solve (E:Ech R e n m p) {q:Nat} (hq:n<=q) (h0:∀ i,p.length<=i->i<R->m i q=0):∀ i,i<R->mv n e (xs m p q) i=e i q:=by
 refine(E.col hq _).mpr fun i hi=>?_
 by_cases h:i<p.length
 ·rw[E.row h,kL n (fun c _=>?_)]
  ·unfold xs;rw[ig (jv h),xX E.nd h];grind
  ·split
   ·rfl
   ·rename_i h;unfold xs;rw[iq h];grind
 ·rw[E.low (by omega) hi,h0 i (by omega) hi]
end
theorem QY (R:Nat) (e:Mt):∀ n,(red R e n).2.length<=n/\((red R e n).2.length=n->(red R e n).2=List.range n)
 | 0=>⟨aj _,fun _=>rfl⟩
 | n+1=>by
  have ⟨h1,h2⟩:=QY R e n
  unfold red
  split
  ·exact⟨by omega,fun h=>by omega⟩
  ·refine⟨by simp;omega,fun h=>?_⟩
   simp at h
   show _++_=_
   rw[Bv,h2 h]
theorem a3q (R:Nat) (e:Mt) (n:Nat):red R e (n+1)=if fk (red R e n).1 n (red R e n).2.length (R-(red R e n).2.length)=R then red R e n
 else (kR (red R e n).1 (red R e n).2.length (fk (red R e n).1 n (red R e n).2.length (R-(red R e n).2.length)) n,(red R e n).2++[n]):=rfl
theorem a3n {R:Nat} {e:Mt} {n:Nat} (h:(red R e n).2.length=R):∀ k,red R e (n+k)=red R e n
 | 0=>rfl
 | k+1=>by
  have ih:=a3n h k
  show red R e (n+k+1)=_
  rw[a3q,ih,ig (by rw[h];simp[fk])]
theorem LM {R:Nat} {e f:Mt} {C:Nat} (h:∀ i,i<R->∀ c,c<C->e i c=f i c):∀ n,n<=C->(red R e n).2=(red R f n).2/\∀ i,i<R->∀ c,c<C->(red R e n).1 i c=(red R f n).1 i c
 | 0,_=>⟨rfl,h⟩
 | n+1,hn=>by
  have ⟨h1,h2⟩:=LM h n (by omega)
  have hl:=(jD R e n).le
  have hk:fk (red R e n).1 n (red R e n).2.length (R-(red R e n).2.length)=fk (red R f n).1 n (red R f n).2.length (R-(red R f n).2.length):=by
   rw[h1];exact a9P _ _ (fun i _ hi=>h2 i (by rw[<-h1] at hi;omega) n (by omega))
  have ⟨k1,k2⟩:=YD (red R e n).1 n (R-(red R e n).2.length) (red R e n).2.length
  unfold red
  rw[<-hk,<-h1]
  generalize fk (red R e n).1 n (red R e n).2.length (R-(red R e n).2.length)=k at *
  by_cases hR:k=R
  ·rw[ig hR,ig hR];exact⟨h1,h2⟩
  ·rw[iq hR,iq hR]
   refine⟨rfl,fun i hi c hc=>?_⟩
   show kR _ _ _ _ i c=kR _ _ _ _ i c
   have hsw:∀ c,c<C->iO (red R e n).1 (red R e n).2.length k i c=iO (red R f n).1 (red R e n).2.length k i c:=fun c hc=>by
    unfold iO;split
    ·exact h2 k (by omega) c hc
    ·split
     ·exact h2 _ (by omega) c hc
     ·exact h2 i hi c hc
   unfold kR
   rw[h2 k (by omega) c hc,h2 k (by omega) n (by omega),hsw c hc,hsw n (by omega)]
theorem a6W {n:Nat} {e:Mt} (h:(red n e n).2.length=n) {q:Nat} (hq:n<=q):∀ i,i<n->mv n e (fun c=>(red n e n).1 c q) i=e i q:=by
 have E:=jD n e n
 have hr:=(QY n e n).2 h
 intro i hi
 rw[<-E.solve hq (fun i h1 h2=>by omega) i hi]
 refine fE n fun c hc=>?_
 unfold xs
 rw[ig (E.full h hc)]
 have h3:(red n e n).2.idxOf c=c:=by
  have a1:c<(red n e n).2.length:=by omega
  have a2:(red n e n).2[c]=c:=by simp[hr]
  have:=xX E.nd a1
  rwa [a2] at this
 rw[h3]
theorem a3K {n:Nat} {a:Mt} (h:∀ x,(∀ i,i<n->mv n a x i=0)->∀ c,c<n->x c=0) (b:Nat->Rat):∃ x,∀ i,i<n->mv n a x i=b i:=by
 have E:=jD n (fun i c=>if c<n then a i c else b i) n
 have hc:∀ x i,mv n (fun i c=>if c<n then a i c else b i) x i=mv n a x i:=fun x i=>fE n fun c hc=>by simp only[ig hc]
 have hl:=E.inj.mpr (fun x hx=>h x (fun i hi=>by rw[<-hc];exact hx i hi))
 refine⟨fun c=>(red n (fun i c=>if c<n then a i c else b i) n).1 c n,fun i hi=>?_⟩
 rw[<-hc,a6W hl (aj n) i hi,iq (by omega)]
end
def jL (r c:Nat) (a:Mt):Mt:=fun i j=>if i<r/\j<c then a i j else 0
def jm (r:Nat):Mt:=fun i j=>if i<r/\i=j then 1 else 0
theorem yY {r c i j:Nat} {a:Mt} (h1:i<r) (h2:j<c):jL r c a i j=a i j:=ig ⟨h1,h2⟩
theorem xP {r c i j:Nat} {a:Mt} (h:¬ (i<r/\j<c)):jL r c a i j=0:=iq h
theorem a0y {r c:Nat} {a b:Mt} (h:∀ i,i<r->∀ j,j<c->a i j=b i j):jL r c a=jL r c b:=by
 funext i j;unfold jL;split
 ·rename_i h1;exact h i h1.1 j h1.2
 ·rfl
theorem a4K {r c:Nat} {a b:Mt} (h:jL r c a=jL r c b) {i j:Nat} (h1:i<r) (h2:j<c):a i j=b i j:=by
 have:=congrFun (congrFun h i) j;rwa [yY h1 h2,yY h1 h2] at this
theorem nP {r f c M:Nat} (h:f<=M) (a b:Mt):jL r c (mm f a b)=mm M (jL r f a) (jL f c b):=by
 funext i j
 obtain⟨d,rfl⟩:∃ d,M=f+d:=⟨M-f,by omega⟩
 unfold mm
 rw[a5o,kL d (fun k _=>by rw[xP (by omega)];grind)]
 by_cases h1:i<r/\j<c
 ·have h2:sm f (fun k=>jL r f a i k*jL f c b k j)=sm f fun k=>a i k*b k j:=fE f fun k hk=>by rw[yY h1.1 hk,yY hk h1.2]
  rw[yY h1.1 h1.2,h2];grind
 ·rw[xP h1,kL f (fun k hk=>?_)]
  ·grind
  ·by_cases h2:i<r
   ·rw[xP (i:=k) (j:=j) (by omega)];grind
   ·rw[xP (i:=i) (by omega)];grind
theorem qF (r c:Nat) (a:Mt):jL r c (tr a)=tr (jL c r a):=by
 funext i j;show (if i<r/\j<c then a j i else 0)=if j<c/\i<r then a j i else 0
 by_cases h:i<r/\j<c
 ·rw[ig h,ig ⟨h.2,h.1⟩]
 ·rw[iq h,iq (by omega)]
theorem a5V (r:Nat):jL r r idm=jm r:=by
 funext i j;unfold jL jm idm
 by_cases h1:i=j
 ·subst h1;by_cases h2:i<r
  ·simp[h2]
  ·simp[h2]
 ·simp[h1]
theorem b2F (a:Mt):tr (tr a)=a:=rfl
theorem b5K (r:Nat):tr (jm r)=jm r:=by
 funext i j;show (if j<r/\j=i then (1:Rat) else 0)=if i<r/\i=j then 1 else 0
 by_cases h:i=j
 ·subst h;rfl
 ·rw[iq (by omega),iq (by omega)]
theorem dR (m k:Nat) (a b c:Mt):mm m (mm k a b) c=mm k a (mm m b c):=by
 funext i j;unfold mm
 rw[show (fun l=>sm k (fun q=>a i q*b q l)*c l j)=(fun l=>sm k (fun q=>a i q*b q l*c l j)) from funext fun l=>(a1w _ _ k).symm,a1x]
 refine fE k fun q _=>?_
 rw[<-OE];exact fE m fun l _=>by grind
theorem ZP (n:Nat) (a b:Mt):tr (mm n a b)=mm n (tr b) (tr a):=by
 funext i j;exact fE n fun k _=>by show a j k*b k i=b k i*a j k;grind
theorem a6r {r c M:Nat} (h:r<=M) (a:Mt):mm M (jm r) (jL r c a)=jL r c a:=by
 funext i j;unfold mm
 by_cases h1:i<r
 ·rw[EC i M (by omega) (fun k _ hk=>by unfold jm;rw[iq (by omega)];grind)]
  unfold jm;rw[ig ⟨h1,rfl⟩];grind
 ·rw[kL M (fun k _=>by unfold jm;rw[iq (by omega)];grind),xP (by omega)]
theorem a6E {r c M:Nat} (h:c<=M) (a:Mt):mm M (jL r c a) (jm c)=jL r c a:=by
 have:=xw tr (a6r (c:=r) h (tr a))
 rw[ZP,<-qF,b2F,b5K] at this;exact this
def ma (a b:Mt):Mt:=fun i j=>a i j+b i j
def ms (a b:Mt):Mt:=fun i j=>a i j-b i j
def zm:Mt:=fun _ _=>0
theorem b3j (r c:Nat) (a b:Mt):jL r c (ma a b)=ma (jL r c a) (jL r c b):=by
 funext i j;unfold jL ma;split<;>grind
theorem b3k (r c:Nat) (a b:Mt):jL r c (ms a b)=ms (jL r c a) (jL r c b):=by
 funext i j;unfold jL ms;split<;>grind
theorem a6F (n:Nat) (a b c:Mt):mm n a (ms b c)=ms (mm n a b) (mm n a c):=by
 funext i j;unfold mm ms;rw[<-VU];exact fE n fun k _=>by grind
theorem b0S (n:Nat) (a b c:Mt):mm n (ms a b) c=ms (mm n a c) (mm n b c):=by
 funext i j;unfold mm ms;rw[<-VU];exact fE n fun k _=>by grind
theorem c2A (n:Nat) (a b c:Mt):mm n a (ma b c)=ma (mm n a b) (mm n a c):=by
 funext i j;unfold mm ma;rw[<-zW];exact fE n fun k _=>by grind
theorem b5D (n:Nat) (a b c:Mt):mm n (ma a b) c=ma (mm n a c) (mm n b c):=by
 funext i j;unfold mm ma;rw[<-zW];exact fE n fun k _=>by grind
theorem WM (n:Nat) (a:Mt):mm n zm a=zm:=by
 funext i j;exact kL n fun k _=>by show 0*a k j=0;grind
theorem a6G (a:Mt):ms a a=zm:=by funext i j;show a i j-a i j=0;grind
theorem b0T (a:Mt):ms a zm=a:=by funext i j;show a i j-0=a i j;grind
theorem c2W (a:Mt):ma zm a=a:=by funext i j;show 0+a i j=a i j;grind
theorem c2Q (a b:Mt):tr (ma a b)=ma (tr a) (tr b):=rfl
theorem b3l {r c:Nat} {a:Mt} (h:∀ i,i<r->∀ j,j<c->a i j=0):jL r c a=zm:=by
 funext i j;by_cases h1:i<r/\j<c
 ·rw[yY h1.1 h1.2];exact h i h1.1 j h1.2
 ·exact xP h1
structure Gau (N f:Nat) (n g:Mt):Prop where
 sym:∀ i,i<N->∀ j,j<N->n i j=n j i
 ng:∀ i,i<N->∀ j,j<f->mm N n g i j=0
 rank:(red N g f).2.length=f
 dim:f+(red N n N).2.length=N
def b5E (N:Nat) (n:Mt):Mt:=fun i s=>QF (red N n N).1 (red N n N).2 ((frees N (red N n N).2).getD s 0) i
theorem a9W {l:List Nat} {s:Nat} (h:s<l.length):l.getD s 0=l[s]:=by
 rw[bf,bn h];rfl
theorem PL (n f:Nat) (a b:Mt) (x:Nat->Rat) (i:Nat):mv f (mm n a b) x i=mv n a (mv f b x) i :=
 congrFun (congrFun (dR f n a b (fun k _=>x k)) i) 0
theorem b0X (n:Nat) (a:Mt) (x y:Nat->Rat) (i:Nat):mv n a (fun c=>x c-y c) i=mv n a x i-mv n a y i:=by
 unfold mv;rw[<-VU];exact fE n fun k _=>by grind
theorem QW {n:Nat} {a:Mt} {x:Nat->Rat} {i:Nat} (h:∀ c,c<n->x c=0):mv n a x i=0:=kL n fun c hc=>by rw[h c hc];grind
theorem Gau.inj {N f:Nat} {n g:Mt} (H:Gau N f n g) {z:Nat->Rat} (h:∀ i,i<N->mv f g z i=0):∀ c,c<f->z c=0:=(jD N g f).inj.mp H.rank z h
theorem Gau.nul {N f:Nat} {n g:Mt} (H:Gau N f n g) (z:Nat->Rat):∀ i,i<N->mv N n (mv f g z) i=0:=fun i hi=>by
 rw[<-PL];exact kL f fun c hc=>by rw[H.ng i hi c hc];grind
theorem Gau.span {N f:Nat} {n g:Mt} (H:Gau N f n g) {x:Nat->Rat} (hx:∀ i,i<N->mv N n x i=0):∃ t,∀ i,i<N->x i=mv f g t i:=by
 have E:=jD N n N
 have hfr:=EP E.nd E.lt
 have hf:(frees N (red N n N).2).length=f:=by have:=H.dim;omega
 have hin:∀ {y:Nat->Rat},(∀ i,i<N->mv N n y i=0)->(∀ s,s<f->y ((frees N (red N n N).2).getD s 0)=0)->∀ c,c<N->y c=0:=fun {y} hy h0=>by
  refine E.span hy fun c hc hp=>?_
  have h1:=NC.mpr ⟨hc,hp⟩
  have ⟨a1,a2⟩:=a1a h1
  rw[hf] at a1;have:=h0 _ a1;rwa [a2] at this
 have ⟨t,ht⟩:=a3K (n:=f) (a:=fun s c=>g ((frees N (red N n N).2).getD s 0) c) (fun z hz=>H.inj (hin (H.nul z) (fun s hs=>hz s hs))) (fun s=>x ((frees N (red N n N).2).getD s 0))
 refine⟨t,fun i hi=>?_⟩
 have:=hin (y:=fun c=>x c-mv f g t c) (fun i hi=>by rw[b0X,hx i hi,H.nul t i hi];grind) (fun s hs=>by
  have:mv f g t ((frees N (red N n N).2).getD s 0)=x ((frees N (red N n N).2).getD s 0):=ht s hs
  rw[this];grind) i hi
 grind
theorem b0t {i j:Nat} (h:i≠j):idm i j=0:=iq h
theorem a2H (i:Nat):idm i i=1:=ig rfl
def jK (n:Nat) (a b:Mt):Mt:=fun i j=>if j<n then a i j else b i (j-n)
structure uZ (n:Nat) (a x:Mt):Prop where
 r:∀ i,i<n->∀ j,j<n->mm n a x i j=idm i j
 l:∀ i,i<n->∀ j,j<n->mm n x a i j=idm i j
theorem UU {n:Nat} {a:Mt} {x y:Nat->Rat} {i:Nat} (h:∀ c,c<n->x c=y c):mv n a x i=mv n a y i:=fE n fun c hc=>by rw[h c hc]
theorem b0W {n:Nat} {x:Nat->Rat} {i:Nat} (h:i<n):mv n idm x i=x i:=by
 unfold mv;rw[EC i n h (fun k _ hk=>by unfold idm;rw[iq (by omega)];grind)]
 unfold idm;rw[ig rfl];grind
theorem JD {n:Nat} {a b:Mt} {x:Nat->Rat} {i:Nat} (h:∀ c,c<n->a i c=b i c):mv n a x i=mv n b x i:=fE n fun c hc=>by rw[h c hc]
theorem uZ.mvl {n:Nat} {a x:Mt} (H:uZ n a x) (u:Nat->Rat) {i:Nat} (h:i<n):mv n x (mv n a u) i=u i:=by
 rw[<-PL,JD (b:=idm) (fun c hc=>H.l i h c hc),b0W h]
theorem uZ.inj {n:Nat} {a x:Mt} (H:uZ n a x) {u:Nat->Rat} (h:∀ i,i<n->mv n a u i=0):∀ c,c<n->u c=0:=fun c hc=>by
 rw[<-H.mvl u hc];exact QW h
theorem a6H (n:Nat) (a b:Mt) (x:Nat->Rat) (i:Nat):mv n (jK n a b) x i=mv n a x i:=JD fun _ hc=>ig hc
theorem a0S {n:Nat} {a:Mt} (b:Mt):(red n (jK n a b) n).2.length=n↔(∀ x,(∀ i,i<n->mv n a x i=0)->∀ c,c<n->x c=0):=by
 have:=(jD n (jK n a b) n).inj
 simp only[a6H] at this;exact this
theorem inv_of {n:Nat} {a:Mt} (h:(red n (jK n a idm) n).2.length=n):uZ n a (fun i j=>(red n (jK n a idm) n).1 i (n+j)):=by
 have hr:∀ i,i<n->∀ j,j<n->mm n a (fun i j=>(red n (jK n a idm) n).1 i (n+j)) i j=idm i j:=fun i hi j hj=>by
  have:=a6W h (Nat.le_add_right n j) i hi
  rw[a6H] at this
  show mv n a (fun c=>(red n (jK n a idm) n).1 c (n+j)) i=_
  rw[this];unfold jK;rw[iq (by omega),Dj]
 refine⟨hr,fun i hi j hj=>?_⟩
 generalize (fun i j=>(red n (jK n a idm) n).1 i (n+j))=x at hr ⊢
 have h1:=(a0S idm).mp h (fun k=>mm n x a k j-idm k j) (fun k hk=>?_) i hi
 ·grind
 ·rw[b0X]
  have h2:mv n a (fun k=>mm n x a k j) k=mm n a (mm n x a) k j:=rfl
  have h3:mv n a (fun k=>idm k j) k=a k j:=by
   unfold mv;rw[EC j n hj (fun q _ hq=>by show a k q*idm q j=0;rw[b0t hq];grind)]
   show a k j*idm j j=_;rw[a2H];grind
  have h4:mm n (mm n a x) a k j=a k j:=by
   rw[show mm n (mm n a x) a k j=mv n (mm n a x) (fun q=>a q j) k from rfl,JD (b:=idm) (fun c hc=>hr k hk c hc),b0W hk]
  rw[h2,h3,<-dR,h4];grind
def xG (c:Nat) (g b w:Mt):Mt:=ms idm (mm c g (mm c w (tr b)))
def bg (N:Nat) (b g:Mt):Mt:=mm N (tr b) g
theorem c0n {N c:Nat} (g b w:Mt) (x:Nat->Rat) {i:Nat} (hi:i<N):mv N (xG c g b w) x i=x i-mv c g (mv c w (mv N (tr b) x)) i:=by
 have h1:mv N (xG c g b w) x i=mv N idm x i-mv N (mm c g (mm c w (tr b))) x i:=congrFun (congrFun (b0S N idm (mm c g (mm c w (tr b))) (fun k _=>x k)) i) 0
 rw[h1,b0W hi,PL]
 have:mv N (mm c w (tr b)) x=mv c w (mv N (tr b) x):=funext fun s=>PL c N w (tr b) x s
 rw[this]
def dt (n:Nat) (x y:Nat->Rat):Rat:=sm n fun i=>x i*y i
theorem a5X (n m:Nat) (a:Mt) (x y:Nat->Rat):dt n x (mv m a y)=dt m (mv n (tr a) x) y:=by
 unfold dt mv
 rw[fE n (g:=fun i=>sm m fun k=>x i*(a i k*y k)) (fun i _=>by rw[OE]),a1x]
 refine fE m fun k _=>?_
 rw[<-a1w];exact fE n fun i _=>by show x i*(a i k*y k)=a i k*x i*y k;grind
theorem TD {n:Nat} {x y z:Nat->Rat} (h:∀ i,i<n->y i=z i):dt n x y=dt n x z:=fE n fun i hi=>by rw[h i hi]
theorem b6c (n:Nat) (x y z:Nat->Rat):dt n x (fun i=>y i-z i)=dt n x y-dt n x z:=by unfold dt;rw[<-VU];exact fE n fun i _=>by grind
theorem MV {N c:Nat} {g:Mt} (b w:Mt) {q:Nat->Rat} (hq:∀ s,s<c->mv N (tr g) q s=0) (x:Nat->Rat):dt N q (mv N (xG c g b w) x)=dt N q x:=by
 rw[TD (fun i hi=>c0n g b w x hi),b6c,a5X]
 have:dt c (mv N (tr g) q) (mv c w (mv N (tr b) x))=0:=kL c fun s hs=>by rw[hq s hs];grind
 rw[this];grind
theorem b6f {N c:Nat} {g:Mt} (b w:Mt) {q:Nat->Rat} (hq:∀ s,s<c->mv N (tr g) q s=0) {i:Nat} (hi:i<N):mv N (tr (xG c g b w)) q i=q i:=by
 have h:=MV b w hq (fun k=>idm k i)
 rw[a5X] at h
 have e:∀ x:Nat->Rat,dt N x (fun k=>idm k i)=x i:=fun x=>by
  unfold dt;rw[EC i N hi (fun k _ hk=>by show x k*idm k i=0;rw[b0t hk];grind)];show x i*idm i i=_;rw[a2H];grind
 rw[e,e] at h;exact h
def around (N:Nat) (s q:Mt):Mt:=mm N (mm N s q) (tr s)
theorem a9M {N c:Nat} {g:Mt} (b w q0:Mt) {q:Nat->Rat} (hq:∀ s,s<c->mv N (tr g) q s=0):dt N q (mv N (around N (xG c g b w) q0) q)=dt N q (mv N q0 q):=by
 have h1:mv N (around N (xG c g b w) q0) q=mv N (xG c g b w) (mv N q0 (mv N (tr (xG c g b w)) q)):=funext fun i=>by
  unfold around;rw[PL,PL]
 rw[h1,MV b w hq]
 exact TD fun i _=>UU fun k hk=>b6f b w hq hk
theorem Gau.gtg {N c:Nat} {n g:Mt} (H:Gau N c n g) {u:Nat->Rat} (h:∀ s,s<c->mv N (tr g) (mv c g u) s=0):∀ s,s<c->u s=0:=by
 refine H.inj (b5I N ?_)
 show dt N (mv c g u) (mv c g u)=0
 rw[a5X];exact kL c fun s hs=>by rw[h s hs];grind
theorem Gau.tng {N c:Nat} {n g:Mt} (H:Gau N c n g) (x:Nat->Rat) {s:Nat} (hs:s<c):mv N (tr g) (mv N n x) s=0:=by
 have h1:mv N (tr g) (mv N n x) s=dt N (fun i=>g i s) (mv N n x):=rfl
 rw[h1,a5X]
 refine kL N fun k hk=>?_
 have h2:=H.ng k hk s hs
 have:mv N (tr n) (fun i=>g i s) k=mm N n g k s:=fE N fun i hi=>by show n i k*g i s=n k i*g i s;rw[H.sym i hi k hk]
 rw[this,h2];grind
def nor (c:Nat) (n g:Mt):Mt:=ma n (mm c g (tr g))
theorem b1a (N c:Nat) (n g:Mt) (x:Nat->Rat) (i:Nat):mv N (nor c n g) x i=mv N n x i+mv c g (mv N (tr g) x) i:=by
 rw[<-PL];exact congrFun (congrFun (b5D N n (mm c g (tr g)) (fun k _=>x k)) i) 0
theorem b6U (n:Nat) (a:Mt) (x y:Nat->Rat) (i:Nat):mv n a (fun c=>x c+y c) i=mv n a x i+mv n a y i:=by
 unfold mv;rw[<-zW];exact fE n fun k _=>by grind
theorem Gau.regular {N c:Nat} {n g:Mt} (H:Gau N c n g) {x:Nat->Rat} (h:∀ i,i<N->mv N (nor c n g) x i=0):∀ i,i<N->x i=0:=by
 have h1:∀ s,s<c->mv N (tr g) x s=0:=H.gtg fun s hs=>by
  have h2:mv N (tr g) (mv N (nor c n g) x) s=0:=QW h
  rw[UU (fun i _=>b1a N c n g x i),b6U,H.tng x hs] at h2;grind
 have h3:∀ i,i<N->mv N n x i=0:=fun i hi=>by
  have:=h i hi;rw[b1a,QW h1] at this;grind
 have ⟨t,ht⟩:=H.span h3
 have h4:=H.gtg (u:=t) fun s hs=>by rw[<-h1 s hs];exact UU fun i hi=>(ht i hi).symm
 intro i hi;rw[ht i hi];exact QW h4
section
section
variable {N:Nat} {n g b w q k s I J:Mt}
theorem c1C (hA:tr (ma n (mm N g (tr g)))=ma n (mm N g (tr g))) (hI:tr I=I) (Iq:mm N I q=q) (qI:mm N (tr q) I=tr q)
  (Aq:mm N (ma n (mm N g (tr g))) q=I):tr q=q:=by
 have h1:=xw tr Aq
 rw[ZP,hA,hI] at h1
 rw[<-qI,<-Aq,<-dR,h1,Iq]
theorem c1B (nI:mm N n I=n) (ng:mm N n g=zm) (hs:s=ms I (mm N g (mm N w (tr b)))):mm N n s=n:=by
 rw[hs,a6F,nI,<-dR,ng,WM,b0T]
theorem c1z (Ig:mm N I g=g) (gJ:mm N g J=g) (wb:mm N w (mm N (tr b) g)=J) (hs:s=ms I (mm N g (mm N w (tr b)))):mm N s g=zm:=by
 rw[hs,b0S,Ig,dR,dR,wb,gJ,a6G]
theorem c1A (bI:mm N (tr b) I=tr b) (Jb:mm N J (tr b)=tr b) (bw:mm N (mm N (tr b) g) w=J) (hs:s=ms I (mm N g (mm N w (tr b)))):mm N (tr b) s=zm:=by
 rw[hs,a6F,bI,<-dR,<-dR,bw,Jb,a6G]
theorem c1E (Ig:mm N I g=g) (gJ:mm N g J=g) (ng:mm N n g=zm) (qA:mm N q (ma n (mm N g (tr g)))=I) (hk:mm N (mm N (tr g) g) k=J):mm N q g=mm N g k:=by
 have h1:mm N (mm N q (ma n (mm N g (tr g)))) g=g:=by rw[qA,Ig]
 rw[dR,b5D,ng,c2W,dR,<-dR N N q] at h1
 have h2:mm N (mm N (mm N q g) (mm N (tr g) g)) k=mm N g k:=by rw[h1]
 rw[dR,hk,dR,gJ] at h2;exact h2
theorem c1F (qA:mm N q (ma n (mm N g (tr g)))=I):mm N q n=ms I (mm N (mm N q g) (tr g)):=by
 rw[<-qA,c2A,<-dR];funext i j;show _=_+_-_;grind
theorem b5Y (hI:tr I=I) (hn:tr n=n) (nI:mm N n I=n) (Ig:mm N I g=g) (Iq:mm N I q=q) (qI':mm N (tr q) I=tr q) (gJ:mm N g J=g) (bI:mm N (tr b) I=tr b) (Jb:mm N J (tr b)=tr b)
  (ng:mm N n g=zm) (qA:mm N q (ma n (mm N g (tr g)))=I) (Aq:mm N (ma n (mm N g (tr g))) q=I) (hk:mm N (mm N (tr g) g) k=J)
  (wb:mm N w (mm N (tr b) g)=J) (bw:mm N (mm N (tr b) g) w=J) (hs:s=ms I (mm N g (mm N w (tr b)))) :
  tr (around N s q)=around N s q/\mm N (mm N n (around N s q)) n=n/\mm N (around N s q) (mm N n (around N s q))=around N s q/\mm N (tr b) (around N s q)=zm:=by
 have qT:tr q=q:=c1C (g:=g) (by rw[c2Q,ZP,b2F,hn]) hI Iq qI' Aq
 have nS:=c1B (w:=w) (b:=b) nI ng hs
 have sn:mm N (tr s) n=n:=by have:=xw tr nS;rwa [ZP,hn] at this
 have sg:=c1z Ig gJ wb hs
 have bS:=c1A bI Jb bw hs
 have qg:=c1E Ig gJ ng qA hk
 have qn:=c1F qA
 have nqn:mm N n (mm N q n)=n:=by
  rw[qn,a6F,nI,qg,<-dR,<-dR,ng,WM,WM,b0T]
 have sqg:mm N s (mm N q g)=zm:=by rw[qg,<-dR,sg,WM]
 have c4w:mm N s (mm N (mm N q n) q)=mm N s q:=by
  rw[qn,b0S,Iq,a6F,dR,<-dR N N s,sqg,WM,b0T]
 refine⟨?_,?_,?_,?_⟩
 ·unfold around;rw[ZP,ZP,b2F,qT,dR]
 ·unfold around
  rw[dR,dR,sn,dR,<-dR,nS,nqn]
 ·have h1:mm N n (around N s q)=mm N n (mm N q (tr s)):=by unfold around;rw[dR,<-dR,nS]
  rw[h1];unfold around
  rw[dR,<-dR N N (tr s),sn,dR,<-dR N N q,<-dR N N (mm N q n),<-dR N N s,c4w]
 ·unfold around;rw[<-dR,<-dR,bS,WM,WM]
end
theorem a1Y (N:Nat) (s q:Mt):jL N N (around N s q)=around N (jL N N s) (jL N N q):=by
 unfold around;rw[nP (aj N),nP (aj N),qF]
theorem NR {c M:Nat} {a x:Mt} (H:uZ c a x) (h:c<=M):mm M (jL c c a) (jL c c x)=jm c/\mm M (jL c c x) (jL c c a)=jm c:=by
 rw[<-nP h,<-nP h,<-a5V];exact⟨a0y H.r,a0y H.l⟩
theorem SL {N c:Nat} {n g b w q:Mt} (H:Gau N c n g) (hw:uZ c (bg N b g) w) (hq:uZ N (nor c n g) q) :
  (∀ i,i<N->∀ j,j<N->around N (xG c g b w) q i j=around N (xG c g b w) q j i) /\
  (∀ i,i<N->∀ j,j<N->mm N (mm N n (around N (xG c g b w) q)) n i j=n i j) /\
  (∀ i,i<N->∀ j,j<N->mm N (around N (xG c g b w) q) (mm N n (around N (xG c g b w) q)) i j=around N (xG c g b w) q i j) /\
  (∀ i,i<c->∀ j,j<N->mm N (tr b) (around N (xG c g b w) q) i j=0):=by
 have hc:c<=N:=by have:=H.dim;omega
 have ⟨k,hk⟩:∃ k,uZ c (bg N g g) k:=⟨_,inv_of ((a0S idm).mpr fun x hx=>H.gtg fun s hs=>by
  have:=hx s hs;unfold bg at this;rwa [PL] at this)⟩
 have k1:=(NR hk hc).1
 have ⟨w1,w2⟩:=NR hw hc
 have ⟨q1,q2⟩:=NR hq (aj N)
 have e1:∀ a b:Mt,jL c c (bg N a b)=mm N (tr (jL N c a)) (jL N c b):=fun a b=>by unfold bg;rw[nP (aj N),qF]
 have e2:jL N N (nor c n g)=ma (jL N N n) (mm N (jL N c g) (tr (jL N c g))):=by unfold nor;rw[b3j,nP hc,qF]
 rw[e1] at k1 w1 w2;rw[e2] at q1 q2
 have hs:jL N N (xG c g b w)=ms (jm N) (mm N (jL N c g) (mm N (jL c c w) (tr (jL N c b)))):=by
  unfold xG;rw[b3k,a5V,nP hc,nP hc,qF]
 have hA:=b5Y (b5K N) (show tr (jL N N n)=jL N N n by rw[<-qF];exact a0y fun i hi j hj=>H.sym j hj i hi)
  (a6E (aj N) n) (a6r (aj N) g) (a6r (aj N) q) (by rw[<-qF];exact a6E (aj N) (tr q)) (a6E hc g)
  (by rw[<-qF];exact a6E (aj N) (tr b)) (by rw[<-qF];exact a6r hc (tr b))
  (by rw[<-nP (aj N)];exact b3l H.ng) q2 q1 k1 w2 w1 hs
 rw[<-a1Y,<-qF,<-nP (aj N),<-nP (aj N),<-nP (aj N),<-qF,<-nP (aj N)] at hA
 exact⟨fun i hi j hj=>(a4K hA.1 hi hj).symm,fun i hi j hj=>a4K hA.2.1 hi hj,fun i hi j hj=>a4K hA.2.2.1 hi hj,fun i hi j hj=>by
  have:=congrFun (congrFun hA.2.2.2 i) j;rwa [yY hi hj] at this⟩
end
end Go.Proofs.YtgplhbhfdgempaaGreat
