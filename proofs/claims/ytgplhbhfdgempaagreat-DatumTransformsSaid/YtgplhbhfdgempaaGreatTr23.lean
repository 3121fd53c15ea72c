/-
  Lemmas for the theorem vtransforms_holds, part 23 of 39.
-/
import Derived.Test.YtgplhbhfdgempaaGreatTr22
namespace Go.Proofs.YtgplhbhfdgempaaGreat
open Go Go.RowKit
set_option maxRecDepth 100000
set_option maxHeartbeats 1000000
set_option linter.unusedVariables false
set_option linter.unusedSimpArgs false
instance c4j (n:Nat):OfNat (Ty.den tI) n:=inferInstanceAs (OfNat Int n)
abbrev LQ':Type:=List Rat
abbrev lv (l:LQ') (i:Nat):Rat:=l.getD i 0
theorem bF {R C:Nat} {f:Nat->Nat->Rat}:(tab R C f).length=R:=by simp[tab]
theorem iT {R C:Nat} {f:Nat->Nat->Rat} {i:Nat} (h:i<R):(tab R C f).getD i []=(List.range C).map (f i):=by
 simp[tab,bf,h]
theorem lG {R C:Nat} {f:Nat->Nat->Rat} {i j:Nat} (h1:i<R) (h2:j<C):ent (tab R C f) i j=f i j:=by
 show ((tab R C f).getD i []).getD j 0=_
 rw[iT h1];simp[bf,h2]
theorem b1X {R C:Nat} {f:Nat->Nat->Rat}:∀ r ∈ tab R C f,r.length=C:=by
 intro r hr;obtain⟨i,_,rfl⟩:=ru.mp hr;simp
theorem rP {R C:Nat} {f:Nat->Nat->Rat} (r1:1<=R) (r2:R<=64) (c1:1<=C) (c2:C<=64):isM (tab R C f) R C:=⟨bF,b1X,r1,r2,c1,c2⟩
theorem isM.wd {a:MQ} {R C:Nat} (h:isM a R C):wdM a=C:=eX (p:=fun r:List Rat=>r.length=C) h.2.1 (by have:=h.1;have:=h.2.2.1;omega)
theorem isM.row {a:MQ} {R C:Nat} (h:isM a R C) {i:Nat} (hi:i<R):(a.getD i []).length=C:=eX (p:=fun r:List Rat=>r.length=C) h.2.1 (by have:=h.1;omega)
theorem fB {R C:Nat} {f g:Nat->Nat->Rat} (h:∀ i,i<R->∀ j,j<C->f i j=g i j):tab R C f=tab R C g:=by
 unfold tab
 refine jl fun i hi=>jl fun j hj=>h i (uy.mp hi) j (uy.mp hj)
theorem UO {a:List Rat} {C:Nat} (h:a.length=C):(List.range C).map (fun j=>a.getD j 0)=a:=by
 apply Ac
 ·simp[h]
 ·intro j h1 h2;simp[bf,h2]
theorem isM.tab {a:MQ} {R C:Nat} (h:isM a R C):Proofs.YtgplhbhfdgempaaGreat.tab R C (ent a)=a:=by
 apply Ac
 ·rw[bF,h.1]
 ·intro i h1 h2
  have hi:i<R:=by rw[<-h.1];exact h2
  have e:(Proofs.YtgplhbhfdgempaaGreat.tab R C (ent a))[i]=(Proofs.YtgplhbhfdgempaaGreat.tab R C (ent a)).getD i []:=by rw[bf,dw h1];rfl
  rw[e,iT hi]
  have e2:a[i]=a.getD i []:=by rw[bf,dw h2];rfl
  rw[e2];exact UO (h.row hi)
theorem jG {R C:Nat} {f:Nat->Nat->Rat} {i:Nat} (h:i<R):(aY R C f).getD i []=(List.range C).map (fun c=>eU (f i c)):=by
 simp[aY,bf,h]
theorem map_set {α:Type} (g:Nat->α) (C c:Nat) (v:α):((List.range C).map g).set c v=(List.range C).map (fun d=>if d=c then v else g d):=by
 apply Ac
 ·simp
 ·intro i h1 h2
  rw[List.getElem_set]
  by_cases e:c=i
  ·subst e;simp
  ·rw[ig e];simp[show ¬ i=c by omega]
theorem a3i {R C:Nat} {f:Nat->Nat->Rat} (i:Nat) (g:Nat->Rat):(aY R C f).set i ((List.range C).map fun c=>eU (g c))=aY R C (fun k=>if k=i then g else f k):=by
 unfold aY;rw[map_set]
 refine jl fun k _=>?_
 by_cases e:k=i
 ·simp only[gy e]
 ·simp only[ig e]
theorem lJ {R C:Nat} {f g:Nat->Nat->Rat} (h:∀ i,i<R->∀ j,j<C->f i j=g i j):aY R C f=aY R C g:=by
 unfold aY
 refine jl fun i hi=>jl fun j hj=>?_
 rw[h i (uy.mp hi) j (uy.mp hj)]
theorem gX {α:Type} {g:Nat->α} {C c:Nat} {d:α} (h:c<C):((List.range C).map g).getD c d=g c:=by
 simp[bf,h]
def szM (a:MQ) (K:Nat):Prop:=∀ i,i<a.length->∀ j,j<wdM a->rsz (ent a i j)<=K
def okM (a:MQ):Prop:=isM a a.length (wdM a)/\szM a 100000000
abbrev liftM (a:MQ):MR:=List.map (fun xs=>List.map (fun x=>eU x) xs) a
theorem XT (a:MQ):(liftM a).length=a.length:=by simp
theorem a7A (a:MQ) (i:Nat):(liftM a).getD i []=(a.getD i []).map eU:=by
 simp[bf]
 cases a[i]?<;>rfl
theorem a2r (a:MQ):wdM (liftM a)=wdM a:=by show ((liftM a).getD 0 []).length=(a.getD 0 []).length;rw[a7A,qw]
theorem okM.ent {a:MQ} (h:okM a) {r:List Rat} (hr:r ∈ a) {x:Rat} (hx:x ∈ r):rsz x<=100000000:=by
 obtain⟨i,hi,rfl⟩:=Dh hr
 obtain⟨j,hj,rfl⟩:=Dh hx
 have h1:=h.1.2.1 _ (oh hi)
 have h2:=h.2 i hi j (by rw[<-h1];exact hj)
 have e:Proofs.YtgplhbhfdgempaaGreat.ent a i j=a[i][j]:=by
  show (a.getD i []).getD j 0=_
  rw[show a.getD i []=a[i] by rw[bf,dw hi];rfl,bf,dw hj];rfl
 rwa [e] at h2
theorem EZ (x:Rat):(eU x).n<=rsz x/\(eU x).m<=rsz x:=⟨Nat.le_max_left _ _,Nat.le_max_right _ _⟩
theorem okM.short {a:MQ} (h:okM a):iH (liftM a):=by
 refine⟨by have:=h.1.2.2.2.1;simp;omega,fun r hr=>?_⟩
 obtain⟨s,hs,rfl⟩:=ru.mp hr
 refine⟨by have:=h.1.2.1 s hs;have:=h.1.2.2.2.2.2;simp;omega,fun q hq=>?_⟩
 obtain⟨x,hx,rfl⟩:=ru.mp hq
 have h1:=h.ent hs hx
 have ⟨h2,h3⟩:=EZ x
 exact⟨by omega,by omega⟩
theorem okM.chk {a:MQ} (h:okM a):dK (liftM a)=0:=by
 obtain⟨⟨h1,h2,h3,h4,h5,h6⟩,_⟩:=h
 have hb:(liftM a).any (badR (wdM a))=false:=by
  refine Ag.mpr fun r hr=>?_
  obtain⟨s,hs,rfl⟩:=ru.mp hr
  unfold badR
  have:(List.map (fun x=>eU x) s).any (fun q=>!q.ok)=false:=Ag.mpr fun q hq=>by
   obtain⟨x,_,rfl⟩:=ru.mp hq;simp[eU]
  rw[this,qw,h2 s hs];simp
 unfold dK
 rw[XT,a2r,hb,gy ⟨h3,h4,h5,h6,rfl⟩]
def uX (m n:Int) (f:Nat->Nat->Rat) (P:Int->Int->Prop) (Fin:MR->Prop):Prop:=(m=m/\0<=m/\m<=1000000000/\True)/\(asT Int 0=0/\List.replicate m.toNat (aC aF)=List.replicate (Int.toNat m-0) (aC aF)/\True)/\∀ (i:{ k:Nat // k<=Int.toNat m }),asT Bool true=true/\ifB (decide (aB (aA i)<aB (aH none (List.replicate m.toNat (aC aF))))) ((n=n/\0<=n/\n<=1000000000/\0<=aB (aA i)/\aB (aA i)<aB (aH none (aY (aA i) n.toNat f++List.replicate (Int.toNat m-aA i) (aC aF)))/\Int.toNat (aB (aA i))<aH none (aY (aA i) n.toNat f++List.replicate (Int.toNat m-aA i) (aC aF))/\True)/\(0<=aB (aA i)/\aB (aA i)<aB (aH (some (List.set (aV none (aY (aA i) n.toNat f++List.replicate (Int.toNat m-aA i) (aC aF))) (aB (aA i)).toNat (aY (aA i) n.toNat f++List.replicate (Int.toNat m-aA i) (aC aF)).length)) (aY (aA i) n.toNat f++List.replicate (Int.toNat m-aA i) (aC aF)++List.replicate n.toNat { ok:=false,x:=0,g:=aC Nat,h:=aC Nat }::aC (List aF)))/\Int.toNat (aB (aA i))<aH (some (List.set (aV none (aY (aA i) n.toNat f++List.replicate (Int.toNat m-aA i) (aC aF))) (aB (aA i)).toNat (aY (aA i) n.toNat f++List.replicate (Int.toNat m-aA i) (aC aF)).length)) (aY (aA i) n.toNat f++List.replicate (Int.toNat m-aA i) (aC aF)++List.replicate n.toNat { ok:=false,x:=0,g:=aC Nat,h:=aC Nat }::aC (List aF))/\True)/\(asT Int 0=0/\List.Nodup (List.set (aV none (aY (aA i) n.toNat f++List.replicate (Int.toNat m-aA i) (aC aF))) (aB (aA i)).toNat (aY (aA i) n.toNat f++List.replicate (Int.toNat m-aA i) (aC aF)).length)/\List.map (fun(i_1:Nat)=>List.getD (aY (aA i) n.toNat f++List.replicate (Int.toNat m-aA i) (aC aF)++List.replicate n.toNat { ok:=false,x:=0,g:=aC Nat,h:=aC Nat }::aC (List aF)) i_1 (aC aF)) (List.set (aV none (aY (aA i) n.toNat f++List.replicate (Int.toNat m-aA i) (aC aF))) (aB (aA i)).toNat (aY (aA i) n.toNat f++List.replicate (Int.toNat m-aA i) (aC aF)).length)=aY (aA i) n.toNat f++(List.map (fun(j:Nat)=>eU (f (aA i) j)) (List.range 0)++List.replicate (Int.toNat n-0) cO)::aC (List aF)++List.replicate (Int.toNat m-aA i-1) (aC aF)/\True)/\∀ (i_1:{ q:Nat // q<=Int.toNat n }),asT Bool true=true/\ifB (decide (aB (aA i_1)<aB (rowAt (aY (aA i) n.toNat f++List.replicate (Int.toNat m-aA i) (aC aF)++List.replicate n.toNat { ok:=false,x:=0,g:=aC Nat,h:=aC Nat }::aC (List aF)) (nameAt (some (List.set (aV none (aY (aA i) n.toNat f++List.replicate (Int.toNat m-aA i) (aC aF))) (aB (aA i)).toNat (aY (aA i) n.toNat f++List.replicate (Int.toNat m-aA i) (aC aF)).length)) (aB (aA i)).toNat)).length)) ((0<=aB (aA i)/\aB (aA i)<aB (aH none (aY (aA i) n.toNat f++(List.map (fun(j:Nat)=>eU (f (aA i) j)) (List.range (aA i_1))++List.replicate (Int.toNat n-aA i_1) cO)::aC (List aF)++List.replicate (Int.toNat m-aA i-1) (aC aF)))/\Int.toNat (aB (aA i))<aH none (aY (aA i) n.toNat f++(List.map (fun(j:Nat)=>eU (f (aA i) j)) (List.range (aA i_1))++List.replicate (Int.toNat n-aA i_1) cO)::aC (List aF)++List.replicate (Int.toNat m-aA i-1) (aC aF))/\P (aB (aA i)) (aB (aA i_1))/\0<=aB (aA i_1)/\aB (aA i_1)<aB (rowAt (aY (aA i) n.toNat f++(List.map (fun(j:Nat)=>eU (f (aA i) j)) (List.range (aA i_1))++List.replicate (Int.toNat n-aA i_1) cO)::aC (List aF)++List.replicate (Int.toNat m-aA i-1) (aC aF)) (nameAt none (aB (aA i)).toNat)).length/\Int.toNat (aB (aA i_1))<List.length (rowAt (aY (aA i) n.toNat f++(List.map (fun(j:Nat)=>eU (f (aA i) j)) (List.range (aA i_1))++List.replicate (Int.toNat n-aA i_1) cO)::aC (List aF)++List.replicate (Int.toNat m-aA i-1) (aC aF)) (nameAt none (aB (aA i)).toNat))/\True)/\∃ (i':{ q:Nat // q<=Int.toNat n }),Int.toNat n-aA i'<Int.toNat n-aA i_1/\IntKind.wrap IntKind.i64 (aB (aA i_1)+1)=aB (aA i')/\List.set (aY (aA i) n.toNat f++(List.map (fun(j:Nat)=>eU (f (aA i) j)) (List.range (aA i_1))++List.replicate (Int.toNat n-aA i_1) cO)::aC (List aF)++List.replicate (Int.toNat m-aA i-1) (aC aF)) (nameAt none (aB (aA i)).toNat) (List.set (rowAt (aY (aA i) n.toNat f++(List.map (fun(j:Nat)=>eU (f (aA i) j)) (List.range (aA i_1))++List.replicate (Int.toNat n-aA i_1) cO)::aC (List aF)++List.replicate (Int.toNat m-aA i-1) (aC aF)) (nameAt none (aB (aA i)).toNat)) (aB (aA i_1)).toNat (eU (f (aB (aA i)).toNat (aB (aA i_1)).toNat)))=aY (aA i) n.toNat f++(List.map (fun(j:Nat)=>eU (f (aA i) j)) (List.range (aA i'))++List.replicate (Int.toNat n-aA i') cO)::aC (List aF)++List.replicate (Int.toNat m-aA i-1) (aC aF)/\True) (∃ (i':{ k:Nat // k<=Int.toNat m }),Int.toNat m-aA i'<Int.toNat m-aA i/\IntKind.wrap IntKind.i64 (aB (aA i)+1)=aB (aA i')/\aY (aA i) n.toNat f++(List.map (fun(j:Nat)=>eU (f (aA i) j)) (List.range (aA i_1))++List.replicate (Int.toNat n-aA i_1) cO)::aC (List aF)++List.replicate (Int.toNat m-aA i-1) (aC aF)=aY (aA i') n.toNat f++List.replicate (Int.toNat m-aA i') (aC aF)/\True)) (Fin (aY (aA i) n.toNat f++List.replicate (Int.toNat m-aA i) (aC aF)))
theorem nM {R C:Nat} {f:Nat->Nat->Rat} {P:Int->Int->Prop} {Fin:MR->Prop} (r2:R<=1000) (c2:C<=1000) (hP:∀ i j:Nat,i<R->j<C->P i j) (hF:Fin (aY R C f)):uX R C f P Fin:=by
 unfold uX
 have hZ:(⟨false,0,[],[]⟩:aF)=cO:=rfl
 dsimp only[aB,asT,aA,aC] at *
 simp only[hZ,Int.toNat_natCast,aU,ay,au,ni,mg]
 have hX:∀ k,k<=R->(aY k C f++List.replicate (R-k) ([]:List aF)).length=R:=fun k hk=>by rw[iw,aS,Aa];omega
 have hY:∀ k (Z:List aF),k<R->(aY k C f++[Z]++List.replicate (R-k-1) ([]:List aF)).length=R:=fun k Z hk=>by rw[iw,iw,aS,Aa];simp;omega
 refine⟨by omega,by rw[Nat.sub_zero],fun i=>⟨fun h1=>?_,fun h1=>?_⟩⟩
 ·have hi:i.1<R:=by simpa [aH] using h1
  simp only[aH,nameAt,aV,hX i.1 i.2,hY i.1 _ hi,iy,iq]
  have e1:((List.range R).set i.1 R).getD i.1 0=R:=by simp[bf,hi]
  have e2:rowAt (aY i.1 C f++List.replicate (R-i.1) []++[List.replicate C cO]) R=List.replicate C cO:=by
   have:=a5V (T:=[]) (hX i.1 i.2) (List.replicate C cO);rwa [Bd] at this
  have e3:=b0n (aY i.1 C f++List.replicate (R-i.1) []) (List.replicate C cO) (k:=i.1) (by rw[hX i.1 i.2];exact hi)
  rw[hX i.1 i.2,b0o (aS _ _ _) hi] at e3
  rw[e1,e2,e3,Aa]
  refine⟨⟨by omega,by omega,by omega,by omega,hi⟩,⟨by omega,by omega,hi⟩,⟨b3u R i.1,by simp⟩,fun q=>⟨fun h2=>?_,fun h2=>?_⟩⟩
  ·have hq:q.1<C:=by omega
   have hl:(List.map (fun j=>eU (f i.1 j)) (List.range q.1)++List.replicate (C-q.1) cO).length=C:=by simp;omega
   rw[a5V (aS _ _ _),hl]
   refine⟨⟨by omega,by omega,hi,hP _ _ hi hq,by omega,by omega,hq⟩,⟨q.1+1,by omega⟩,by simp only;omega,by rw[aZ (by omega) (by omega)];rfl,?_⟩
   rw[b0q (aS _ _ _),b0p (fun j=>eU (f i.1 j)) cO hq]
  ·have hq:q.1=C:=by have:=q.2;omega
   refine⟨⟨i.1+1,by omega⟩,by simp only;omega,by rw[aZ (by omega) (by omega)];rfl,?_⟩
   rw[hq,Nat.sub_self,List.replicate_zero,Bd,a8k,Nat.sub_sub]
 ·have hi:i.1=R:=by have:=i.2;simp only[aH,Aa] at h1;omega
  rw[hi,Nat.sub_self,List.replicate_zero,Bd]
  exact hF
def tJ (m n:Int) (f:Nat->Nat->Rat):List Ann:=[.inv {k:Nat // k<=m.toNat} (fun k=>[(14,.val tI (k.1:Int))]) (fun k=>[(11,.mat 32 64 tR none (aY k.1 n.toNat f++List.replicate (m.toNat-k.1) []) 0)]) (fun k=>m.toNat-k.1) ⟨0,by omega⟩ (fun k=>[
 .inv {q:Nat // q<=n.toNat} (fun q=>[(27,.val tI (q.1:Int)),(20,.any),(21,.any),(24,.any),(25,.any)]) (fun q=>[(11,.mat 32 64 tR none (aY k.1 n.toNat f++[(List.range q.1).map (fun j=>eU (f k.1 j))++List.replicate (n.toNat-q.1) cO]++List.replicate (m.toNat-k.1-1) []) 0)]) (fun q=>n.toNat-q.1) ⟨0,by omega⟩ (fun _=>[])])]
abbrev LKm:LK:=.mat 32 64 tR
def ZU (T:List Ty) (ok:(nest T).den->Int->Int->Prop) (g:(nest T).den->Nat->Nat->Rat):Ctr:=⟨tI::tI::T,[tQ],fun x=>ok x.2.2 x.1 x.2.1,fun x=>(g x.2.2 (show Int from x.1).toNat (show Int from x.2.1).toNat,())⟩
def CX (T:List Ty) (ok:(nest T).den->Int->Int->Prop) (x:(nest [tI,tI,nest T]).den):Prop:=∃ R C:Nat,(show Int from x.1)=R/\(show Int from x.2.1)=C/\R<=1000/\C<=1000/\∀ i j:Nat,i<R->j<C->ok x.2.2.1 i j
def KI (F:FuncId) (T:List Ty) (ok:(nest T).den->Int->Int->Prop) (g:(nest T).den->Nat->Nat->Rat):AO:=.mk LKm [tI,tI,.clo F (nest T)] (fun x=>CX T ok x) (fun x=>aY (show Int from x.1).toNat (show Int from x.2.1).toNat (g x.2.2.1))
def sm:Nat->(Nat->Rat)->Rat
 | 0,_=>0
 | n+1,f=>sm n f+f n
theorem iG {f g:Nat->Rat}:∀ n,(∀ i,i<n->f i=g i)->sm n f=sm n g
 | 0,_=>rfl
 | n+1,h=>by show sm n f+f n=sm n g+g n;rw[iG n (fun i hi=>h i (by omega)),h n (by omega)]
theorem oJ {f:Nat->Rat}:∀ n,(∀ i,i<n->f i=0)->sm n f=0
 | 0,_=>rfl
 | n+1,h=>by show sm n f+f n=0;rw[oJ n (fun i hi=>h i (by omega)),h n (by omega)];grind
theorem DV (f g:Nat->Rat):∀ n,sm n (fun i=>f i+g i)=sm n f+sm n g
 | 0=>by show (0:Rat)=0+0;grind
 | n+1=>by show sm n _+(f n+g n)=(sm n f+f n)+(sm n g+g n);rw[DV f g n];grind
theorem NI (k:Rat) (f:Nat->Rat):∀ n,sm n (fun i=>k*f i)=k*sm n f
 | 0=>by show (0:Rat)=k*0;grind
 | n+1=>by show sm n _+k*f n=k*(sm n f+f n);rw[NI k f n];grind
theorem a1a (k:Rat) (f:Nat->Rat) (n:Nat):sm n (fun i=>f i*k)=sm n f*k:=by
 rw[show (fun i=>f i*k)=(fun i=>k*f i) from funext fun i=>by grind,NI];grind
theorem a4Q (f g:Nat->Rat) (n:Nat):sm n (fun i=>f i-g i)=sm n f-sm n g:=by
 rw[show (fun i=>f i-g i)=(fun i=>f i+(-1)*g i) from funext fun i=>by grind,DV f (fun i=>(-1)*g i),NI];grind
theorem a1b (f:Nat->Nat->Rat) (m:Nat):∀ n,sm n (fun i=>sm m (fun j=>f i j))=sm m (fun j=>sm n (fun i=>f i j))
 | 0=>(oJ m (fun j _=>rfl)).symm
 | n+1=>by
  show sm n (fun i=>sm m (fun j=>f i j))+sm m (fun j=>f n j)=sm m (fun j=>sm n (fun i=>f i j)+f n j)
  rw[a1b f m n,DV]
theorem NJ {f:Nat->Rat} (k:Nat):∀ n,k<n->(∀ i,i<n->i≠k->f i=0)->sm n f=f k
 | 0,h,_=>by omega
 | n+1,h,hz=>by
  show sm n f+f n=f k
  by_cases e:k=n
  ·rw[oJ n (fun i hi=>hz i (by omega) (by omega)),e];grind
  ·rw[NJ k n (by omega) (fun i hi hk=>hz i (by omega) hk),hz n (by omega) (by omega)];grind
theorem YS {f:Nat->Rat}:∀ n,(∀ i,i<n->0<=f i)->0<=sm n f
 | 0,_=>by show (0:Rat)<=0;grind
 | n+1,h=>by
  have h1:=YS n (fun i hi=>h i (by omega));have h2:=h n (by omega)
  show 0<=sm n f+f n;grind
theorem NH {x:Rat} (h:x≠0):x / x=1:=by rw[Rat.div_def,Rat.mul_inv_cancel x h]
theorem sq_nonneg (x:Rat):0<=x*x:=by
 rcases Rat.le_total (a:=0) (b:=x) with h|h
 ·exact Rat.mul_nonneg h h
 ·have:=Rat.mul_nonneg (a:=-x) (b:=-x) (by grind) (by grind);grind
theorem b5g {f:Nat->Rat}:∀ n,sm n (fun i=>f i*f i)=0->∀ i,i<n->f i=0
 | 0,_,i,h=>by omega
 | n+1,h,i,hi=>by
  have h1:=YS (f:=fun i=>f i*f i) n (fun i _=>sq_nonneg (f i))
  have h2:=sq_nonneg (f n)
  have h:sm n (fun i=>f i*f i)+f n*f n=0:=h
  have h3:sm n (fun i=>f i*f i)=0:=by grind
  have h4:f n*f n=0:=by grind
  by_cases e:i=n
  ·rw[e];grind
  ·exact b5g n h3 i (by omega)
theorem b1E (f:Nat->Rat) (m:Nat):∀ n,sm (m+n) f=sm m f+sm n (fun i=>f (m+i))
 | 0=>by show sm m f=sm m f+0;grind
 | n+1=>by show sm (m+n) f+f (m+n)=sm m f+(sm n (fun i=>f (m+i))+f (m+n));rw[b1E f m n];grind
abbrev Mt:=Nat->Nat->Rat
def mm (n:Nat) (a b:Mt):Mt:=fun i j=>sm n fun k=>a i k*b k j
def mv (n:Nat) (a:Mt) (x:Nat->Rat):Nat->Rat:=fun i=>sm n fun k=>a i k*x k
def tr (a:Mt):Mt:=fun i j=>a j i
def idm:Mt:=fun i j=>if i=j then 1 else 0
def fk (e:Mt) (j:Nat):Nat->Nat->Nat
 | r,0=>r
 | r,n+1=>if e r j=0 then fk e j (r+1) n else r
theorem XH (e:Mt) (j:Nat):∀ n r,r<=fk e j r n/\fk e j r n<=r+n
 | 0,r=>⟨aj _,aj _⟩
 | n+1,r=>by
  have:=XH e j n (r+1)
  unfold fk;split<;>omega
theorem PS (e:Mt) (j:Nat):∀ n r i,r<=i->i<fk e j r n->e i j=0
 | 0,r,i,h1,h2=>by unfold fk at h2;omega
 | n+1,r,i,h1,h2=>by
  unfold fk at h2;split at h2
  ·rename_i h0
   by_cases h:i=r
   ·rw[h];exact h0
   ·exact PS e j n (r+1) i (by omega) h2
  ·omega
theorem a1S (e:Mt) (j:Nat):∀ n r,fk e j r n<r+n->e (fk e j r n) j≠0
 | 0,r,h=>by unfold fk at h;omega
 | n+1,r,h=>by
  unfold fk at h ⊢;split at h
  ·rename_i h0;rw[gy h0];exact a1S e j n (r+1) (by omega)
  ·rename_i h0;rw[ig h0];exact h0
theorem a1R (e:Mt) (j r n k:Nat) (h1:r<=k) (h2:k<=r+n) (hz:∀ i,r<=i->i<k->e i j=0) (hn:k<r+n->e k j≠0):fk e j r n=k:=by
 have ⟨a1,a2⟩:=XH e j n r
 rcases Nat.lt_trichotomy (fk e j r n) k with h|h|h
 ·exact absurd (hz _ a1 h) (a1S e j n r (by omega))
 ·exact h
 ·exact absurd (PS e j n r k h1 h) (hn (by omega))
theorem a9o {e f:Mt} {j:Nat} (n r:Nat) (h:∀ i,r<=i->i<r+n->e i j=f i j):fk e j r n=fk f j r n:=by
 have ⟨a1,a2⟩:=XH f j n r
 refine a1R e j r n _ a1 a2 (fun i h1 h2=>?_) (fun h1=>?_)
 ·rw[h i h1 (by omega)];exact PS f j n r i h1 h2
 ·rw[h _ a1 h1];exact a1S f j n r h1
def iO (e:Mt) (r k:Nat):Mt:=fun i=>if i=r then e k else if i=k then e r else e i
def kK (e:Mt) (r k j:Nat):Mt:=fun i c=>if i=r then e k c / e k j else iO e r k i c-iO e r k i j*(e k c / e k j)
def red (R:Nat) (e:Mt):Nat->Mt × List Nat
 | 0=>(e,[])
 | n+1 =>
  if fk (red R e n).1 n (red R e n).2.length (R-(red R e n).2.length)=R then red R e n
  else (kK (red R e n).1 (red R e n).2.length (fk (red R e n).1 n (red R e n).2.length (R-(red R e n).2.length)) n,(red R e n).2++[n])
structure Ech (R:Nat) (e:Mt) (n:Nat) (m:Mt) (p:List Nat):Prop where
 le:p.length<=R
 lt:∀ j ∈ p,j<n
 nd:p.Nodup
 unit:∀ t (h:t<p.length) i,i<R->m i p[t]=if i=t then 1 else 0
 rest:∀ i,p.length<=i->i<R->∀ c,c<n->m i c=0
 sol:∀ C (x:Nat->Rat),(∀ i,i<R->mv C e x i=0)↔(∀ i,i<R->mv C m x i=0)
theorem a1d (m:Mt) (r k j C:Nat) (x:Nat->Rat) (i:Nat):mv C (kK m r k j) x i=if i=r then mv C m x k / m k j else mv C (iO m r k) x i-iO m r k i j*(mv C m x k / m k j):=by
 unfold mv kK
 by_cases h:i=r
 ·simp only[gy h]
  rw[show (fun c=>m k c / m k j*x c)=(fun c=>m k c*x c*(m k j)⁻¹) from funext fun c=>by rw[Rat.div_def];grind,a1a,Rat.div_def]
 ·simp only[ig h]
  rw[show (fun c=>(iO m r k i c-iO m r k i j*(m k c / m k j))*x c)=(fun c=>iO m r k i c*x c-(iO m r k i j*(m k j)⁻¹)*(m k c*x c)) from funext fun c=>by rw[Rat.div_def];grind,a4Q (fun c=>iO m r k i c*x c) (fun c=>(iO m r k i j*(m k j)⁻¹)*(m k c*x c)),NI,Rat.div_def];grind
theorem b1K (m:Mt) (R r k j C:Nat) (x:Nat->Rat) (hr:r<R) (hk:k<R) (hz:m k j≠0):(∀ i,i<R->mv C m x i=0)↔(∀ i,i<R->mv C (kK m r k j) x i=0):=by
 have hsw:∀ i,mv C (iO m r k) x i=if i=r then mv C m x k else if i=k then mv C m x r else mv C m x i:=fun i=>by
  unfold mv iO;by_cases h1:i=r
  ·simp only[gy h1]
  ·by_cases h2:i=k
   ·simp only[ig h1,gy h2]
   ·simp only[ig h1,ig h2]
 constructor
 ·intro h i hi
  rw[a1d,hsw,h k hk]
  split
  ·rw[Rat.div_def];grind
  ·have:=h i hi;have:=h r hr;rw[Rat.div_def];split<;>grind
 ·intro h
  have h1:=h r hr
  rw[a1d,gy rfl,Rat.div_def] at h1
  have hkz:mv C m x k=0:=by
   have:mv C m x k=mv C m x k*(m k j)⁻¹*m k j:=by rw[Rat.mul_assoc,Rat.inv_mul_cancel _ hz];grind
   rw[this,h1];grind
  have hA:∀ i,i<R->i≠r->(if i=k then mv C m x r else mv C m x i)=0:=fun i hi hir=>by
   have:=h i hi
   rw[a1d,ig hir,hsw,ig hir,hkz,Rat.div_def] at this
   grind
  intro i hi
  by_cases e1:i=k
  ·rw[e1];exact hkz
  ·by_cases e2:i=r
   ·have:=hA k hk (by omega)
    rw[gy rfl] at this;rw[e2];exact this
   ·have:=hA i hi e2
    rw[ig e1] at this;exact this
theorem iL (R:Nat) (e:Mt):∀ n,Ech R e n (red R e n).1 (red R e n).2
 | 0=>⟨uw _,fun j h=>(nomatch h),List.nodup_nil,fun t h=>absurd h (Nat.not_lt_zero _),fun i _ _ c h=>absurd h (Nat.not_lt_zero _),fun _ _=>Iff.rfl⟩
 | n+1=>by
  have ih:=iL R e n
  rw[show red R e (n+1)=(if fk (red R e n).1 n (red R e n).2.length (R-(red R e n).2.length)=R then ((red R e n).1,(red R e n).2) else (kK (red R e n).1 (red R e n).2.length (fk (red R e n).1 n (red R e n).2.length (R-(red R e n).2.length)) n,(red R e n).2++[n])) from rfl]
  generalize (red R e n).1=m at *
  generalize (red R e n).2=p at *
  generalize hk:fk m n p.length (R-p.length)=k
  have ⟨k1,k2⟩:=XH m n (R-p.length) p.length
  have k3:=PS m n (R-p.length) p.length
  have k4:=a1S m n (R-p.length) p.length
  rw[hk] at k1 k2 k3 k4
  have hle:=ih.le
  by_cases hR:k=R
  ·rw[gy hR]
   exact⟨ih.le,fun j hj=>Nat.lt_succ_of_lt (ih.lt j hj),ih.nd,ih.unit,fun i h1 h2 c hc=>by
    by_cases e1:c=n
    ·rw[e1];exact k3 i h1 (by omega)
    ·exact ih.rest i h1 h2 c (by omega),ih.sol⟩
  ·rw[ig hR]
   have hz:m k n≠0:=k4 (by omega)
   refine⟨by simp;omega,fun j hj=>?_,?_,fun t ht i hi=>?_,fun i h1 h2 c hc=>?_,fun C x=>?_⟩
   ·rcases uq.mp hj with h|h
    ·exact Nat.lt_succ_of_lt (ih.lt j h)
    ·rw[oz.mp h];omega
   ·refine List.nodup_append.mpr ⟨ih.nd,by simp,fun a ha b hb=>?_⟩
    have:=ih.lt a ha;rw[oz.mp hb];omega
   ·have ht:t<p.length+1:=by simpa using ht
    show kK m p.length k n i (p++[n])[t]=_
    by_cases e1:t=p.length
    ·have hc:(p++[n])[t]=n:=by simp[e1]
     rw[hc,e1];unfold kK
     by_cases e2:i=p.length
     ·rw[gy e2,gy e2];exact NH hz
     ·rw[ig e2,ig e2,NH hz];grind
    ·have hl:t<p.length:=by omega
     have hc:(p++[n])[t]=p[t]:=by rw[List.getElem_append_left hl]
     have hkt:=ih.unit t hl k (by omega)
     rw[ig (show ¬ k=t by omega)] at hkt
     rw[hc];unfold kK iO
     rw[hkt]
     by_cases e2:i=p.length
     ·rw[gy e2,ig (by omega),Rat.div_def];grind
     ·simp only[ig e2]
      by_cases e3:i=k
      ·simp only[gy e3]
       rw[ih.unit t hl p.length (by omega),ig (by omega),ig (by omega),Rat.div_def];grind
      ·simp only[ig e3]
       rw[ih.unit t hl i hi,Rat.div_def];grind
   ·have h1:p.length+1<=i:=by simpa using h1
    show kK m p.length k n i c=0
    have hsz:∀ c,c<n->iO m p.length k i c=0:=fun c hc=>by
     unfold iO;rw[ig (by omega)]
     split
     ·exact ih.rest p.length (aj _) (by omega) c hc
     ·exact ih.rest i (by omega) h2 c hc
    unfold kK;rw[ig (by omega)]
    by_cases e1:c=n
    ·rw[e1,NH hz];grind
    ·rw[hsz c (by omega),ih.rest k k1 (by omega) c (by omega),Rat.div_def];grind
   ·rw[ih.sol C x];exact b1K m R p.length k n C x (by omega) (by omega) hz
section
theorem xG {p:List Nat} (h:p.Nodup) {t:Nat} (ht:t<p.length):p.idxOf p[t]=t:=by
 have h1:p.idxOf p[t]<p.length:=List.idxOf_lt_length_iff.mpr (oh ht)
 have h2:p[p.idxOf p[t]]=p[t]:=List.getElem_idxOf h1
 exact(List.getElem_inj h).mp h2
theorem a0B {p:List Nat} {c:Nat} (h:c ∈ p):p.idxOf c<p.length/\p.getD (p.idxOf c) 0=c:=by
 have h1:p.idxOf c<p.length:=List.idxOf_lt_length_iff.mpr h
 refine⟨h1,?_⟩
 rw[bf,dw h1];exact List.getElem_idxOf h1
theorem b1F {n:Nat}:∀ (p:List Nat),p.Nodup->(∀ j ∈ p,j<n)->sm n (fun c=>if c ∈ p then 1 else 0)=(p.length:Nat)
 | [],_,_=>oJ n (fun c _=>rfl)
 | a::p,hd,hl=>by
  have h1:=b1F p (List.nodup_cons.mp hd).2 (fun j hj=>hl j (jf _ hj))
  have h2:sm n (fun c=>if c=a then (1:Rat) else 0)=1:=by
   rw[NJ a n (hl a (jk ..)) (fun i _ hi=>ig hi),gy rfl]
  have h3:=(List.nodup_cons.mp hd).1
  rw[show (fun c=>if c ∈ a::p then (1:Rat) else 0)=(fun c=>(if c=a then (1:Rat) else 0)+(if c ∈ p then 1 else 0)) from funext fun c=>by
   by_cases e:c=a
   ·subst e;rw[gy (jk ..),gy rfl,ig h3];grind
   ·by_cases e2:c ∈ p
    ·rw[gy (jf _ e2),ig e,gy e2];grind
    ·rw[ig (by simp[e,e2]),ig e,ig e2];grind,DV,h1,h2,List.length_cons]
  grind
theorem a6E:∀ n,sm n (fun _=>1)=(n:Nat)
 | 0=>rfl
 | n+1=>by show sm n (fun _=>1)+1=_;rw[a6E n];grind
def frees (n:Nat) (p:List Nat):List Nat:=(List.range n).filter (fun c=>decide (c ∉ p))
theorem a6D (p:List Nat):∀ n,sm n (fun c=>if c ∈ p then 0 else 1)=((frees n p).length:Nat)
 | 0=>rfl
 | n+1=>by
  show sm n (fun c=>if c ∈ p then 0 else 1)+(if n ∈ p then 0 else 1)=_
  rw[a6D p n]
  unfold frees
  rw[Bv,List.filter_append,iw]
  by_cases h:n ∈ p
  ·simp[h];grind
  ·simp[h]
theorem EO {n:Nat} {p:List Nat} (hd:p.Nodup) (hl:∀ j ∈ p,j<n):(frees n p).length+p.length=n:=by
 have h1:=b1F p hd hl
 have h2:=a6D p n
 have h3:=a6E n
 have h4:=DV (fun c=>if c ∈ p then (1:Rat) else 0) (fun c=>if c ∈ p then (0:Rat) else 1) n
 rw[show (fun c=>(if c ∈ p then (1:Rat) else 0)+(if c ∈ p then (0:Rat) else 1))=(fun _=>1) from funext fun c=>by split<;>grind,h1,h2,h3] at h4
 have h5:((n:Nat):Rat)=((p.length+(frees n p).length:Nat):Rat):=by rw[h4];push_cast;rfl
 have:=Rat.natCast_inj.mp h5
 omega
theorem MF {n:Nat} {p:List Nat} {c:Nat}:c ∈ frees n p↔c<n/\c ∉ p:=by unfold frees;simp
section
variable {R n:Nat} {e m:Mt} {p:List Nat}
theorem Ech.row (E:Ech R e n m p) {t:Nat} (ht:t<p.length) (x:Nat->Rat):mv n m x t=x p[t]+sm n (fun c=>if c ∈ p then 0 else m t c*x c):=by
 have hl:=E.le
 have h1:sm n (fun c=>if c ∈ p then m t c*x c else 0)=x p[t]:=by
  rw[NJ p[t] n (E.lt _ (oh ht)) (fun c _ hc=>?_),gy (oh ht),E.unit t ht t (by omega),gy rfl]
  ·grind
  ·by_cases h:c ∈ p
   ·rw[gy h]
    have ⟨a1,a2⟩:=a0B h
    have a3:p[p.idxOf c]=c:=List.getElem_idxOf a1
    have:=E.unit (p.idxOf c) a1 t (by omega)
    rw[a3,ig (fun h=>hc (by rw[<-a3];congr 1;exact h.symm))] at this
    rw[this];grind
   ·rw[ig h]
 rw[<-h1,<-DV]
 exact iG n fun c _=>by split<;>grind
theorem Ech.low (E:Ech R e n m p) {i:Nat} (h1:p.length<=i) (h2:i<R) (x:Nat->Rat):mv n m x i=0 :=
 oJ n fun c hc=>by rw[E.rest i h1 h2 c hc];grind
def PE (m:Mt) (p:List Nat) (j:Nat):Nat->Rat:=fun c=>if c=j then 1 else if c ∈ p then-m (p.idxOf c) j else 0
theorem YB (m:Mt) (p:List Nat) (j:Nat):PE m p j j=1:=gy rfl
theorem a7H {m:Mt} {p:List Nat} {j c:Nat} (h:c ∉ p):PE m p j c=if c=j then 1 else 0:=by
 unfold PE;rw[ig h]
theorem b0H (E:Ech R e n m p) {j t:Nat} (ht:t<p.length) (hj:j ∉ p):PE m p j p[t]=- m t j:=by
 unfold PE
 rw[ig (fun h=>hj (by rw[<-h];exact oh ht)),gy (oh ht),xG E.nd ht]
theorem Ech.null (E:Ech R e n m p) {j:Nat} (hn:j<n) (hj:j ∉ p):∀ i,i<R->mv n e (PE m p j) i=0:=by
 refine(E.sol n _).mpr fun i hi=>?_
 by_cases h:i<p.length
 ·rw[E.row h,b0H E h hj,NJ j n hn (fun c _ hc=>?_),ig hj,YB]
  ·grind
  ·split
   ·rfl
   ·rename_i h;rw[a7H h,ig hc];grind
 ·exact E.low (by omega) hi _
theorem Ech.span (E:Ech R e n m p) {x:Nat->Rat} (hx:∀ i,i<R->mv n e x i=0) (hf:∀ c,c<n->c ∉ p->x c=0):∀ c,c<n->x c=0:=by
 intro c hc
 by_cases h:c ∈ p
 ·have ⟨a1,a2⟩:=a0B h
  have a3:p[p.idxOf c]=c:=List.getElem_idxOf a1
  have h1:=(E.sol n x).mp hx (p.idxOf c) (ku a1 E.le)
  rw[E.row a1,a3,oJ n (fun c hc=>?_)] at h1
  ·grind
  ·split
   ·rfl
   ·rename_i h;rw[hf c hc h];grind
 ·exact hf c hc h
theorem Ech.full (E:Ech R e n m p) (h:p.length=n) {c:Nat} (hc:c<n):c ∈ p:=by
 have h1:=EO E.nd E.lt
 by_cases hm:c ∈ p
 ·exact hm
 ·have:=List.length_pos_of_mem (MF.mpr ⟨hc,hm⟩);omega
theorem Ech.inj (E:Ech R e n m p):p.length=n↔∀ x,(∀ i,i<R->mv n e x i=0)->∀ c,c<n->x c=0:=by
 constructor
 ·intro h x hx
  exact E.span hx (fun c hc hn=>absurd (E.full h hc) hn)
 ·intro h
  have h1:=EO E.nd E.lt
  rcases yj (frees n p).length with h0|h0
  ·omega
  ·have ⟨h2,h3⟩:=MF.mp (oh h0)
   have:=h _ (E.null h2 h3) _ h2
   rw[YB] at this;exact absurd this (by decide)
theorem Ech.col (E:Ech R e n m p) {q:Nat} (hq:n<=q) (x:Nat->Rat):(∀ i,i<R->mv n e x i=e i q)↔(∀ i,i<R->mv n m x i=m i q):=by
 have key:∀ (a:Mt) i,mv (q+1) a (fun c=>if c<n then x c else if c=q then -1 else 0) i=mv n a x i-a i q:=fun a i=>by
  unfold mv
  show sm q _+_=_
  obtain⟨d,rfl⟩:∃ d,q=n+d:=⟨q-n,by omega⟩
  rw[b1E,oJ d (fun c hc=>?_),iG n (g:=fun k=>a i k*x k) (fun c hc=>by simp only[gy hc])]
  ·simp only[ig (show ¬ n+d<n by omega)];simp only[Dk];grind
  ·simp only[ig (show ¬ n+c<n by omega),ig (show ¬ n+c=n+d by omega)];grind
 have h:=E.sol (q+1) (fun c=>if c<n then x c else if c=q then -1 else 0)
 simp only[key] at h
 constructor
 ·intro h1 i hi;have:=h.mp (fun i hi=>by rw[h1 i hi];grind) i hi;grind
 ·intro h1 i hi;have:=h.mpr (fun i hi=>by rw[h1 i hi];grind) i hi;grind
def xs (m:Mt) (p:List Nat) (q:Nat):Nat->Rat:=fun c=>if c ∈ p then m (p.idxOf c) q else 0
theorem Ech.solve (E:Ech R e n m p) {q:Nat} (hq:n<=q) (h0:∀ i,p.length<=i->i<R->m i q=0):∀ i,i<R->mv n e (xs m p q) i=e i q:=by
 refine(E.col hq _).mpr fun i hi=>?_
 by_cases h:i<p.length
 ·rw[E.row h,oJ n (fun c _=>?_)]
  ·unfold xs;rw[gy (oh h),xG E.nd h];grind
  ·split
   ·rfl
   ·rename_i h;unfold xs;rw[ig h];grind
 ·rw[E.low (by omega) hi,h0 i (by omega) hi]
end
theorem QE (R:Nat) (e:Mt):∀ n,(red R e n).2.length<=n/\((red R e n).2.length=n->(red R e n).2=List.range n)
 | 0=>⟨aj _,fun _=>rfl⟩
 | n+1=>by
  have ⟨h1,h2⟩:=QE R e n
  unfold red
  split
  ·exact⟨by omega,fun h=>by omega⟩
  ·refine⟨by simp;omega,fun h=>?_⟩
   simp at h
   show _++_=_
   rw[Bv,h2 h]
theorem UH (R:Nat) (e:Mt) (n:Nat):red R e (n+1)=if fk (red R e n).1 n (red R e n).2.length (R-(red R e n).2.length)=R then red R e n
 else (kK (red R e n).1 (red R e n).2.length (fk (red R e n).1 n (red R e n).2.length (R-(red R e n).2.length)) n,(red R e n).2++[n]):=rfl
theorem KU {R:Nat} {e:Mt} {n:Nat} (h:(red R e n).2.length=R):∀ k,red R e (n+k)=red R e n
 | 0=>rfl
 | k+1=>by
  have ih:=KU h k
  show red R e (n+k+1)=_
  rw[UH,ih,gy (by rw[h];simp[fk])]
theorem a6q (R:Nat) (e:Mt) (n:Nat):∀ k,∃ l,(red R e (n+k)).2=(red R e n).2++l/\∀ j ∈ l,n<=j
 | 0=>⟨[],by simp,by simp⟩
 | k+1=>by
  have ⟨l,h1,h2⟩:=a6q R e n k
  show ∃ l,(red R e (n+k+1)).2=_/\_
  rw[UH]
  split
  ·exact⟨l,h1,h2⟩
  ·refine⟨l++[n+k],by show _++_=_;rw[h1,Ar],fun j hj=>?_⟩
   rcases uq.mp hj with h|h
   ·exact h2 j h
   ·rw[oz.mp h];omega
theorem xZ {R:Nat} {e f:Mt} {C:Nat} (h:∀ i,i<R->∀ c,c<C->e i c=f i c):∀ n,n<=C->(red R e n).2=(red R f n).2/\∀ i,i<R->∀ c,c<C->(red R e n).1 i c=(red R f n).1 i c
 | 0,_=>⟨rfl,h⟩
 | n+1,hn=>by
  have ⟨h1,h2⟩:=xZ h n (by omega)
  have hl:=(iL R e n).le
  have hk:fk (red R e n).1 n (red R e n).2.length (R-(red R e n).2.length)=fk (red R f n).1 n (red R f n).2.length (R-(red R f n).2.length):=by
   rw[h1];exact a9o _ _ (fun i _ hi=>h2 i (by rw[<-h1] at hi;omega) n (by omega))
  have ⟨k1,k2⟩:=XH (red R e n).1 n (R-(red R e n).2.length) (red R e n).2.length
  unfold red
  rw[<-hk,<-h1]
  generalize fk (red R e n).1 n (red R e n).2.length (R-(red R e n).2.length)=k at *
  by_cases hR:k=R
  ·rw[gy hR,gy hR];exact⟨h1,h2⟩
  ·rw[ig hR,ig hR]
   refine⟨rfl,fun i hi c hc=>?_⟩
   show kK _ _ _ _ i c=kK _ _ _ _ i c
   have hsw:∀ c,c<C->iO (red R e n).1 (red R e n).2.length k i c=iO (red R f n).1 (red R e n).2.length k i c:=fun c hc=>by
    unfold iO;split
    ·exact h2 k (by omega) c hc
    ·split
     ·exact h2 _ (by omega) c hc
     ·exact h2 i hi c hc
   unfold kK
   rw[h2 k (by omega) c hc,h2 k (by omega) n (by omega),hsw c hc,hsw n (by omega)]
theorem a6p {n:Nat} {e:Mt} (h:(red n e n).2.length=n) {q:Nat} (hq:n<=q):∀ i,i<n->mv n e (fun c=>(red n e n).1 c q) i=e i q:=by
 have E:=iL n e n
 have hr:=(QE n e n).2 h
 intro i hi
 rw[<-E.solve hq (fun i h1 h2=>by omega) i hi]
 refine iG n fun c hc=>?_
 unfold xs
 rw[gy (E.full h hc)]
 have h3:(red n e n).2.idxOf c=c:=by
  have a1:c<(red n e n).2.length:=by omega
  have a2:(red n e n).2[c]=c:=by simp[hr]
  have:=xG E.nd a1
  rwa [a2] at this
 rw[h3]
theorem a3h {n:Nat} {a:Mt} (h:∀ x,(∀ i,i<n->mv n a x i=0)->∀ c,c<n->x c=0) (b:Nat->Rat):∃ x,∀ i,i<n->mv n a x i=b i:=by
 have E:=iL n (fun i c=>if c<n then a i c else b i) n
 have hc:∀ x i,mv n (fun i c=>if c<n then a i c else b i) x i=mv n a x i:=fun x i=>iG n fun c hc=>by simp only[gy hc]
 have hl:=E.inj.mpr (fun x hx=>h x (fun i hi=>by rw[<-hc];exact hx i hi))
 refine⟨fun c=>(red n (fun i c=>if c<n then a i c else b i) n).1 c n,fun i hi=>?_⟩
 rw[<-hc,a6p hl (aj n) i hi,ig (by omega)]
end
theorem TT (m k:Nat) (a b c:Mt):mm m (mm k a b) c=mm k a (mm m b c):=by
 funext i j;unfold mm
 rw[show (fun l=>sm k (fun q=>a i q*b q l)*c l j)=(fun l=>sm k (fun q=>a i q*b q l*c l j)) from funext fun l=>(a1a _ _ k).symm,a1b]
 refine iG k fun q _=>?_
 rw[<-NI];exact iG m fun l _=>by grind
def ma (a b:Mt):Mt:=fun i j=>a i j+b i j
def ms (a b:Mt):Mt:=fun i j=>a i j-b i j
def zm:Mt:=fun _ _=>0
theorem c2d (n:Nat) (a b c:Mt):mm n (ms a b) c=ms (mm n a c) (mm n b c):=by
 funext i j;unfold mm ms;rw[<-a4Q];exact iG n fun k _=>by grind
theorem c2a (n:Nat) (a b c:Mt):mm n (ma a b) c=ma (mm n a c) (mm n b c):=by
 funext i j;unfold mm ma;rw[<-DV];exact iG n fun k _=>by grind
structure Gau (N f:Nat) (n g:Mt):Prop where
 sym:∀ i,i<N->∀ j,j<N->n i j=n j i
 ng:∀ i,i<N->∀ j,j<f->mm N n g i j=0
 rank:(red N g f).2.length=f
 dim:f+(red N n N).2.length=N
def b5c (N:Nat) (n:Mt):Mt:=fun i s=>PE (red N n N).1 (red N n N).2 ((frees N (red N n N).2).getD s 0) i
theorem a9w {l:List Nat} {s:Nat} (h:s<l.length):l.getD s 0=l[s]:=by
 rw[bf,dw h];rfl
theorem XV (n f:Nat) (a b:Mt) (x:Nat->Rat) (i:Nat):mv f (mm n a b) x i=mv n a (mv f b x) i :=
 congrFun (congrFun (TT f n a b (fun k _=>x k)) i) 0
theorem a4h (n:Nat) (a:Mt) (x y:Nat->Rat) (i:Nat):mv n a (fun c=>x c-y c) i=mv n a x i-mv n a y i:=by
 unfold mv;rw[<-a4Q];exact iG n fun k _=>by grind
theorem QD {n:Nat} {a:Mt} {x:Nat->Rat} {i:Nat} (h:∀ c,c<n->x c=0):mv n a x i=0:=oJ n fun c hc=>by rw[h c hc];grind
theorem Gau.inj {N f:Nat} {n g:Mt} (H:Gau N f n g) {z:Nat->Rat} (h:∀ i,i<N->mv f g z i=0):∀ c,c<f->z c=0:=(iL N g f).inj.mp H.rank z h
theorem Gau.nul {N f:Nat} {n g:Mt} (H:Gau N f n g) (z:Nat->Rat):∀ i,i<N->mv N n (mv f g z) i=0:=fun i hi=>by
 rw[<-XV];exact oJ f fun c hc=>by rw[H.ng i hi c hc];grind
theorem Gau.span {N f:Nat} {n g:Mt} (H:Gau N f n g) {x:Nat->Rat} (hx:∀ i,i<N->mv N n x i=0):∃ t,∀ i,i<N->x i=mv f g t i:=by
 have E:=iL N n N
 have hfr:=EO E.nd E.lt
 have hf:(frees N (red N n N).2).length=f:=by have:=H.dim;omega
 have hin:∀ {y:Nat->Rat},(∀ i,i<N->mv N n y i=0)->(∀ s,s<f->y ((frees N (red N n N).2).getD s 0)=0)->∀ c,c<N->y c=0:=fun {y} hy h0=>by
  refine E.span hy fun c hc hp=>?_
  have h1:=MF.mpr ⟨hc,hp⟩
  have ⟨a1,a2⟩:=a0B h1
  rw[hf] at a1;have:=h0 _ a1;rwa [a2] at this
 have ⟨t,ht⟩:=a3h (n:=f) (a:=fun s c=>g ((frees N (red N n N).2).getD s 0) c) (fun z hz=>H.inj (hin (H.nul z) (fun s hs=>hz s hs))) (fun s=>x ((frees N (red N n N).2).getD s 0))
 refine⟨t,fun i hi=>?_⟩
 have:=hin (y:=fun c=>x c-mv f g t c) (fun i hi=>by rw[a4h,hx i hi,H.nul t i hi];grind) (fun s hs=>by
  have:mv f g t ((frees N (red N n N).2).getD s 0)=x ((frees N (red N n N).2).getD s 0):=ht s hs
  rw[this];grind) i hi
 grind
theorem b6a {i j:Nat} (h:i≠j):idm i j=0:=ig h
theorem a9U (i:Nat):idm i i=1:=gy rfl
def gG (n:Nat) (a b:Mt):Mt:=fun i j=>if j<n then a i j else b i (j-n)
structure BA (n:Nat) (a x:Mt):Prop where
 r:∀ i,i<n->∀ j,j<n->mm n a x i j=idm i j
 l:∀ i,i<n->∀ j,j<n->mm n x a i j=idm i j
theorem xU {n:Nat} {a:Mt} {x y:Nat->Rat} {i:Nat} (h:∀ c,c<n->x c=y c):mv n a x i=mv n a y i:=iG n fun c hc=>by rw[h c hc]
theorem b0v {n:Nat} {x:Nat->Rat} {i:Nat} (h:i<n):mv n idm x i=x i:=by
 unfold mv;rw[NJ i n h (fun k _ hk=>by unfold idm;rw[ig (by omega)];grind)]
 unfold idm;rw[gy rfl];grind
theorem TV {n:Nat} {a b:Mt} {x:Nat->Rat} {i:Nat} (h:∀ c,c<n->a i c=b i c):mv n a x i=mv n b x i:=iG n fun c hc=>by rw[h c hc]
theorem BA.mvl {n:Nat} {a x:Mt} (H:BA n a x) (u:Nat->Rat) {i:Nat} (h:i<n):mv n x (mv n a u) i=u i:=by
 rw[<-XV,TV (b:=idm) (fun c hc=>H.l i h c hc),b0v h]
theorem BA.inj {n:Nat} {a x:Mt} (H:BA n a x) {u:Nat->Rat} (h:∀ i,i<n->mv n a u i=0):∀ c,c<n->u c=0:=fun c hc=>by
 rw[<-H.mvl u hc];exact QD h
theorem a5Z (n:Nat) (a b:Mt) (x:Nat->Rat) (i:Nat):mv n (gG n a b) x i=mv n a x i:=TV fun _ hc=>gy hc
theorem a5L {n:Nat} {a:Mt} (b:Mt):(red n (gG n a b) n).2.length=n↔(∀ x,(∀ i,i<n->mv n a x i=0)->∀ c,c<n->x c=0):=by
 have:=(iL n (gG n a b) n).inj
 simp only[a5Z] at this;exact this
theorem inv_of {n:Nat} {a:Mt} (h:(red n (gG n a idm) n).2.length=n):BA n a (fun i j=>(red n (gG n a idm) n).1 i (n+j)):=by
 have hr:∀ i,i<n->∀ j,j<n->mm n a (fun i j=>(red n (gG n a idm) n).1 i (n+j)) i j=idm i j:=fun i hi j hj=>by
  have:=a6p h (Nat.le_add_right n j) i hi
  rw[a5Z] at this
  show mv n a (fun c=>(red n (gG n a idm) n).1 c (n+j)) i=_
  rw[this];unfold gG;rw[ig (by omega),Di]
 refine⟨hr,fun i hi j hj=>?_⟩
 generalize (fun i j=>(red n (gG n a idm) n).1 i (n+j))=x at hr ⊢
 have h1:=(a5L idm).mp h (fun k=>mm n x a k j-idm k j) (fun k hk=>?_) i hi
 ·grind
 ·rw[a4h]
  have h2:mv n a (fun k=>mm n x a k j) k=mm n a (mm n x a) k j:=rfl
  have h3:mv n a (fun k=>idm k j) k=a k j:=by
   unfold mv;rw[NJ j n hj (fun q _ hq=>by show a k q*idm q j=0;rw[b6a hq];grind)]
   show a k j*idm j j=_;rw[a9U];grind
  have h4:mm n (mm n a x) a k j=a k j:=by
   rw[show mm n (mm n a x) a k j=mv n (mm n a x) (fun q=>a q j) k from rfl,TV (b:=idm) (fun c hc=>hr k hk c hc),b0v hk]
  rw[h2,h3,<-TT,h4];grind
def a0Y (c:Nat) (g b w:Mt):Mt:=ms idm (mm c g (mm c w (tr b)))
def bg (N:Nat) (b g:Mt):Mt:=mm N (tr b) g
theorem b1B {N c:Nat} (g b w:Mt) (x:Nat->Rat) {i:Nat} (hi:i<N):mv N (a0Y c g b w) x i=x i-mv c g (mv c w (mv N (tr b) x)) i:=by
 have h1:mv N (a0Y c g b w) x i=mv N idm x i-mv N (mm c g (mm c w (tr b))) x i:=congrFun (congrFun (c2d N idm (mm c g (mm c w (tr b))) (fun k _=>x k)) i) 0
 rw[h1,b0v hi,XV]
 have:mv N (mm c w (tr b)) x=mv c w (mv N (tr b) x):=funext fun s=>XV c N w (tr b) x s
 rw[this]
theorem VU {N c:Nat} {g b w b' w':Mt} (hw:BA c (bg N b' g) w') (x:Nat->Rat) {i:Nat} (hi:i<N):mv N (a0Y c g b' w') (mv N (a0Y c g b w) x) i=mv N (a0Y c g b' w') x i:=by
 have h0:∀ z i,i<N->mv N (a0Y c g b' w') (mv c g z) i=0:=fun z i hi=>by
  rw[b1B g b' w' _ hi]
  have h1:∀ s,s<c->mv c w' (mv N (tr b') (mv c g z)) s=z s:=fun s hs=>by
   rw[xU (fun s _=>(XV N c (tr b') g z s).symm)];exact hw.mvl z hs
  rw[xU h1];grind
 rw[xU (fun k hk=>b1B g b w x hk),a4h,h0 _ i hi];grind
def dt (n:Nat) (x y:Nat->Rat):Rat:=sm n fun i=>x i*y i
theorem b4L (n m:Nat) (a:Mt) (x y:Nat->Rat):dt n x (mv m a y)=dt m (mv n (tr a) x) y:=by
 unfold dt mv
 rw[iG n (g:=fun i=>sm m fun k=>x i*(a i k*y k)) (fun i _=>by rw[NI]),a1b]
 refine iG m fun k _=>?_
 rw[<-a1a];exact iG n fun i _=>by show x i*(a i k*y k)=a i k*x i*y k;grind
theorem Gau.gtg {N c:Nat} {n g:Mt} (H:Gau N c n g) {u:Nat->Rat} (h:∀ s,s<c->mv N (tr g) (mv c g u) s=0):∀ s,s<c->u s=0:=by
 refine H.inj (b5g N ?_)
 show dt N (mv c g u) (mv c g u)=0
 rw[b4L];exact oJ c fun s hs=>by rw[h s hs];grind
theorem Gau.tng {N c:Nat} {n g:Mt} (H:Gau N c n g) (x:Nat->Rat) {s:Nat} (hs:s<c):mv N (tr g) (mv N n x) s=0:=by
 have h1:mv N (tr g) (mv N n x) s=dt N (fun i=>g i s) (mv N n x):=rfl
 rw[h1,b4L]
 refine oJ N fun k hk=>?_
 have h2:=H.ng k hk s hs
 have:mv N (tr n) (fun i=>g i s) k=mm N n g k s:=iG N fun i hi=>by show n i k*g i s=n k i*g i s;rw[H.sym i hi k hk]
 rw[this,h2];grind
def nor (c:Nat) (n g:Mt):Mt:=ma n (mm c g (tr g))
theorem b0z (N c:Nat) (n g:Mt) (x:Nat->Rat) (i:Nat):mv N (nor c n g) x i=mv N n x i+mv c g (mv N (tr g) x) i:=by
 rw[<-XV];exact congrFun (congrFun (c2a N n (mm c g (tr g)) (fun k _=>x k)) i) 0
theorem b6s (n:Nat) (a:Mt) (x y:Nat->Rat) (i:Nat):mv n a (fun c=>x c+y c) i=mv n a x i+mv n a y i:=by
 unfold mv;rw[<-DV];exact iG n fun k _=>by grind
theorem Gau.regular {N c:Nat} {n g:Mt} (H:Gau N c n g) {x:Nat->Rat} (h:∀ i,i<N->mv N (nor c n g) x i=0):∀ i,i<N->x i=0:=by
 have h1:∀ s,s<c->mv N (tr g) x s=0:=H.gtg fun s hs=>by
  have h2:mv N (tr g) (mv N (nor c n g) x) s=0:=QD h
  rw[xU (fun i _=>b0z N c n g x i),b6s,H.tng x hs] at h2;grind
 have h3:∀ i,i<N->mv N n x i=0:=fun i hi=>by
  have:=h i hi;rw[b0z,QD h1] at this;grind
 have ⟨t,ht⟩:=H.span h3
 have h4:=H.gtg (u:=t) fun s hs=>by rw[<-h1 s hs];exact xU fun i hi=>(ht i hi).symm
 intro i hi;rw[ht i hi];exact QD h4
end Go.Proofs.YtgplhbhfdgempaaGreat
