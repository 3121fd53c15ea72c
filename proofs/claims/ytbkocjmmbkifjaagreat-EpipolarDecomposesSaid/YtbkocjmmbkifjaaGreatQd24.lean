/-
  Lemmas for the theorem vdecomposes28_holds, part 24 of 34.
-/
import Derived.Test.YtbkocjmmbkifjaaGreatQd23
namespace Go.Proofs.YtbkocjmmbkifjaaGreat
open Go Go.RowKit
theorem Ak:type_of% @Rat.mul_inv_cancel:=@Rat.mul_inv_cancel
set_option maxRecDepth 100000
set_option maxHeartbeats 1000000
set_option linter.unusedVariables false
set_option linter.unusedSimpArgs false
instance c6V (n:Nat):OfNat (Ty.den tI) n:=inferInstanceAs (OfNat Int n)
abbrev LQ':Type:=List Rat
abbrev lv (l:LQ') (i:Nat):Rat:=l.getD i 0
theorem jW {R C:Nat} {f:Nat->Nat->Rat}:(tab R C f).length=R:=by simp[tab]
theorem DU {R C:Nat} {f:Nat->Nat->Rat} {i:Nat} (h:i<R):(tab R C f).getD i []=(List.range C).map (f i):=by
 simp[tab,bf,h]
theorem kQ {R C:Nat} {f:Nat->Nat->Rat} {i j:Nat} (h1:i<R) (h2:j<C):ent (tab R C f) i j=f i j:=by
 show ((tab R C f).getD i []).getD j 0=_
 rw[DU h1];simp[bf,h2]
theorem b2d {R C:Nat} {f:Nat->Nat->Rat}:∀ r ∈ tab R C f,r.length=C:=by
 intro r hr;obtain⟨i,_,rfl⟩:=ni.mp hr;simp
theorem DT {R C:Nat} {f:Nat->Nat->Rat} (r1:1<=R) (r2:R<=64) (c1:1<=C) (c2:C<=64):isM (tab R C f) R C:=⟨jW,b2d,r1,r2,c1,c2⟩
theorem isM.wd {a:MQ} {R C:Nat} (h:isM a R C):wdM a=C:=cZ (p:=fun r:List Rat=>r.length=C) h.2.1 (by have:=h.1;have:=h.2.2.1;omega)
theorem isM.row {a:MQ} {R C:Nat} (h:isM a R C) {i:Nat} (hi:i<R):(a.getD i []).length=C:=cZ (p:=fun r:List Rat=>r.length=C) h.2.1 (by have:=h.1;omega)
theorem mD {R C:Nat} {f g:Nat->Nat->Rat} (h:∀ i,i<R->∀ j,j<C->f i j=g i j):tab R C f=tab R C g:=by
 unfold tab
 refine ku fun i hi=>ku fun j hj=>h i (oq.mp hi) j (oq.mp hj)
theorem b1w {a:List Rat} {C:Nat} (h:a.length=C):(List.range C).map (fun j=>a.getD j 0)=a:=by
 apply Ei
 ·simp[h]
 ·intro j h1 h2;simp[bf,h2]
theorem isM.tab {a:MQ} {R C:Nat} (h:isM a R C):Proofs.YtbkocjmmbkifjaaGreat.tab R C (ent a)=a:=by
 apply Ei
 ·rw[jW,h.1]
 ·intro i h1 h2
  have hi:i<R:=by rw[<-h.1];exact h2
  have e:(Proofs.YtbkocjmmbkifjaaGreat.tab R C (ent a))[i]=(Proofs.YtbkocjmmbkifjaaGreat.tab R C (ent a)).getD i []:=by rw[bf,bn h1];rfl
  rw[e,DU hi]
  have e2:a[i]=a.getD i []:=by rw[bf,bn h2];rfl
  rw[e2];exact b1w (h.row hi)
theorem a2y {R C:Nat} {f:Nat->Nat->Rat} {i:Nat} (h:i<R):(dI R C f).getD i []=(List.range C).map (fun c=>dM (f i c)):=by
 simp[dI,bf,h]
theorem map_set {α:Type} (g:Nat->α) (C c:Nat) (v:α):((List.range C).map g).set c v=(List.range C).map (fun d=>if d=c then v else g d):=by
 apply Ei
 ·simp
 ·intro i h1 h2
  rw[List.getElem_set]
  by_cases e:c=i
  ·subst e;simp
  ·rw[eu e];simp[show ¬ i=c by omega]
theorem b1Y {R C:Nat} {f:Nat->Nat->Rat} (i:Nat) (g:Nat->Rat):(dI R C f).set i ((List.range C).map fun c=>dM (g c))=dI R C (fun k=>if k=i then g else f k):=by
 unfold dI;rw[map_set]
 refine ku fun k _=>?_
 by_cases e:k=i
 ·simp only[iw e]
 ·simp only[eu e]
theorem uZ {R C:Nat} {f g:Nat->Nat->Rat} (h:∀ i,i<R->∀ j,j<C->f i j=g i j):dI R C f=dI R C g:=by
 unfold dI
 refine ku fun i hi=>ku fun j hj=>?_
 rw[h i (oq.mp hi) j (oq.mp hj)]
theorem wZ {α:Type} {g:Nat->α} {C c:Nat} {d:α} (h:c<C):((List.range C).map g).getD c d=g c:=by
 simp[bf,h]
def szM (a:MQ) (K:Nat):Prop:=∀ i,i<a.length->∀ j,j<wdM a->rsz (ent a i j)<=K
def okM (a:MQ):Prop:=isM a a.length (wdM a)/\szM a 100000000
abbrev liftM (a:MQ):MR:=List.map (fun xs=>List.map (fun x=>dM x) xs) a
theorem a7e (a:MQ):(liftM a).length=a.length:=by simp
theorem a7f (a:MQ) (i:Nat):(liftM a).getD i []=(a.getD i []).map dM:=by
 simp[bf]
 cases a[i]?<;>rfl
theorem b0m (a:MQ):wdM (liftM a)=wdM a:=by show ((liftM a).getD 0 []).length=(a.getD 0 []).length;rw[a7f,jo]
theorem okM.ent {a:MQ} (h:okM a) {r:List Rat} (hr:r ∈ a) {x:Rat} (hx:x ∈ r):rsz x<=100000000:=by
 obtain⟨i,hi,rfl⟩:=Au hr
 obtain⟨j,hj,rfl⟩:=Au hx
 have h1:=h.1.2.1 _ (Am hi)
 have h2:=h.2 i hi j (by rw[<-h1];exact hj)
 have e:Proofs.YtbkocjmmbkifjaaGreat.ent a i j=a[i][j]:=by
  show (a.getD i []).getD j 0=_
  rw[show a.getD i []=a[i] by rw[bf,bn hi];rfl,bf,bn hj];rfl
 rwa [e] at h2
theorem a7v (x:Rat):(dM x).n<=rsz x/\(dM x).m<=rsz x:=⟨Nat.le_max_left _ _,Nat.le_max_right _ _⟩
theorem okM.short {a:MQ} (h:okM a):pV (liftM a):=by
 refine⟨by have:=h.1.2.2.2.1;simp;omega,fun r hr=>?_⟩
 obtain⟨s,hs,rfl⟩:=ni.mp hr
 refine⟨by have:=h.1.2.1 s hs;have:=h.1.2.2.2.2.2;simp;omega,fun q hq=>?_⟩
 obtain⟨x,hx,rfl⟩:=ni.mp hq
 have h1:=h.ent hs hx
 have ⟨h2,h3⟩:=a7v x
 exact⟨by omega,by omega⟩
theorem okM.chk {a:MQ} (h:okM a):kC (liftM a)=0:=by
 obtain⟨⟨h1,h2,h3,h4,h5,h6⟩,_⟩:=h
 have hb:(liftM a).any (badR (wdM a))=false:=by
  refine Dn.mpr fun r hr=>?_
  obtain⟨s,hs,rfl⟩:=ni.mp hr
  unfold badR
  have:(List.map (fun x=>dM x) s).any (fun q=>!q.ok)=false:=Dn.mpr fun q hq=>by
   obtain⟨x,_,rfl⟩:=ni.mp hq;simp[dM]
  rw[this,jo,h2 s hs];simp
 unfold kC
 rw[a7e,b0m,hb,iw ⟨h3,h4,h5,h6,rfl⟩]
def AV (m n:Int) (f:Nat->Nat->Rat) (P:Int->Int->Prop) (Fin:MR->Prop):Prop:=(m=m/\0<=m/\m<=1000000000/\True)/\(asT Int 0=0/\List.replicate m.toNat (aC aG)=List.replicate (Int.toNat m-0) (aC aG)/\True)/\∀ (i:{ k:Nat // k<=Int.toNat m }),asT Bool true=true/\ifB (decide (aB (aA i)<aB (dB none (List.replicate m.toNat (aC aG))))) ((n=n/\0<=n/\n<=1000000000/\0<=aB (aA i)/\aB (aA i)<aB (dB none (dI (aA i) n.toNat f++List.replicate (Int.toNat m-aA i) (aC aG)))/\Int.toNat (aB (aA i))<dB none (dI (aA i) n.toNat f++List.replicate (Int.toNat m-aA i) (aC aG))/\True)/\(0<=aB (aA i)/\aB (aA i)<aB (dB (some (List.set (bZ none (dI (aA i) n.toNat f++List.replicate (Int.toNat m-aA i) (aC aG))) (aB (aA i)).toNat (dI (aA i) n.toNat f++List.replicate (Int.toNat m-aA i) (aC aG)).length)) (dI (aA i) n.toNat f++List.replicate (Int.toNat m-aA i) (aC aG)++List.replicate n.toNat { ok:=false,x:=0,g:=aC Nat,h:=aC Nat }::aC (List aG)))/\Int.toNat (aB (aA i))<dB (some (List.set (bZ none (dI (aA i) n.toNat f++List.replicate (Int.toNat m-aA i) (aC aG))) (aB (aA i)).toNat (dI (aA i) n.toNat f++List.replicate (Int.toNat m-aA i) (aC aG)).length)) (dI (aA i) n.toNat f++List.replicate (Int.toNat m-aA i) (aC aG)++List.replicate n.toNat { ok:=false,x:=0,g:=aC Nat,h:=aC Nat }::aC (List aG))/\True)/\(asT Int 0=0/\List.Nodup (List.set (bZ none (dI (aA i) n.toNat f++List.replicate (Int.toNat m-aA i) (aC aG))) (aB (aA i)).toNat (dI (aA i) n.toNat f++List.replicate (Int.toNat m-aA i) (aC aG)).length)/\List.map (fun(i_1:Nat)=>List.getD (dI (aA i) n.toNat f++List.replicate (Int.toNat m-aA i) (aC aG)++List.replicate n.toNat { ok:=false,x:=0,g:=aC Nat,h:=aC Nat }::aC (List aG)) i_1 (aC aG)) (List.set (bZ none (dI (aA i) n.toNat f++List.replicate (Int.toNat m-aA i) (aC aG))) (aB (aA i)).toNat (dI (aA i) n.toNat f++List.replicate (Int.toNat m-aA i) (aC aG)).length)=dI (aA i) n.toNat f++(List.map (fun(j:Nat)=>dM (f (aA i) j)) (List.range 0)++List.replicate (Int.toNat n-0) bF)::aC (List aG)++List.replicate (Int.toNat m-aA i-1) (aC aG)/\True)/\∀ (i_1:{ q:Nat // q<=Int.toNat n }),asT Bool true=true/\ifB (decide (aB (aA i_1)<aB (rowAt (dI (aA i) n.toNat f++List.replicate (Int.toNat m-aA i) (aC aG)++List.replicate n.toNat { ok:=false,x:=0,g:=aC Nat,h:=aC Nat }::aC (List aG)) (nameAt (some (List.set (bZ none (dI (aA i) n.toNat f++List.replicate (Int.toNat m-aA i) (aC aG))) (aB (aA i)).toNat (dI (aA i) n.toNat f++List.replicate (Int.toNat m-aA i) (aC aG)).length)) (aB (aA i)).toNat)).length)) ((0<=aB (aA i)/\aB (aA i)<aB (dB none (dI (aA i) n.toNat f++(List.map (fun(j:Nat)=>dM (f (aA i) j)) (List.range (aA i_1))++List.replicate (Int.toNat n-aA i_1) bF)::aC (List aG)++List.replicate (Int.toNat m-aA i-1) (aC aG)))/\Int.toNat (aB (aA i))<dB none (dI (aA i) n.toNat f++(List.map (fun(j:Nat)=>dM (f (aA i) j)) (List.range (aA i_1))++List.replicate (Int.toNat n-aA i_1) bF)::aC (List aG)++List.replicate (Int.toNat m-aA i-1) (aC aG))/\P (aB (aA i)) (aB (aA i_1))/\0<=aB (aA i_1)/\aB (aA i_1)<aB (rowAt (dI (aA i) n.toNat f++(List.map (fun(j:Nat)=>dM (f (aA i) j)) (List.range (aA i_1))++List.replicate (Int.toNat n-aA i_1) bF)::aC (List aG)++List.replicate (Int.toNat m-aA i-1) (aC aG)) (nameAt none (aB (aA i)).toNat)).length/\Int.toNat (aB (aA i_1))<List.length (rowAt (dI (aA i) n.toNat f++(List.map (fun(j:Nat)=>dM (f (aA i) j)) (List.range (aA i_1))++List.replicate (Int.toNat n-aA i_1) bF)::aC (List aG)++List.replicate (Int.toNat m-aA i-1) (aC aG)) (nameAt none (aB (aA i)).toNat))/\True)/\∃ (i':{ q:Nat // q<=Int.toNat n }),Int.toNat n-aA i'<Int.toNat n-aA i_1/\IntKind.wrap IntKind.i64 (aB (aA i_1)+1)=aB (aA i')/\List.set (dI (aA i) n.toNat f++(List.map (fun(j:Nat)=>dM (f (aA i) j)) (List.range (aA i_1))++List.replicate (Int.toNat n-aA i_1) bF)::aC (List aG)++List.replicate (Int.toNat m-aA i-1) (aC aG)) (nameAt none (aB (aA i)).toNat) (List.set (rowAt (dI (aA i) n.toNat f++(List.map (fun(j:Nat)=>dM (f (aA i) j)) (List.range (aA i_1))++List.replicate (Int.toNat n-aA i_1) bF)::aC (List aG)++List.replicate (Int.toNat m-aA i-1) (aC aG)) (nameAt none (aB (aA i)).toNat)) (aB (aA i_1)).toNat (dM (f (aB (aA i)).toNat (aB (aA i_1)).toNat)))=dI (aA i) n.toNat f++(List.map (fun(j:Nat)=>dM (f (aA i) j)) (List.range (aA i'))++List.replicate (Int.toNat n-aA i') bF)::aC (List aG)++List.replicate (Int.toNat m-aA i-1) (aC aG)/\True) (∃ (i':{ k:Nat // k<=Int.toNat m }),Int.toNat m-aA i'<Int.toNat m-aA i/\IntKind.wrap IntKind.i64 (aB (aA i)+1)=aB (aA i')/\dI (aA i) n.toNat f++(List.map (fun(j:Nat)=>dM (f (aA i) j)) (List.range (aA i_1))++List.replicate (Int.toNat n-aA i_1) bF)::aC (List aG)++List.replicate (Int.toNat m-aA i-1) (aC aG)=dI (aA i') n.toNat f++List.replicate (Int.toNat m-aA i') (aC aG)/\True)) (Fin (dI (aA i) n.toNat f++List.replicate (Int.toNat m-aA i) (aC aG)))
theorem sV {R C:Nat} {f:Nat->Nat->Rat} {P:Int->Int->Prop} {Fin:MR->Prop} (r2:R<=1000) (c2:C<=1000) (hP:∀ i j:Nat,i<R->j<C->P i j) (hF:Fin (dI R C f)):AV R C f P Fin:=by
 unfold AV
 have hZ:(⟨false,0,[],[]⟩:aG)=bF:=rfl
 dsimp only[aB,asT,aA,aC] at *
 simp only[hZ,Int.toNat_natCast,jS,gy,oz,Ee,Dk]
 have hX:∀ k,k<=R->(dI k C f++List.replicate (R-k) ([]:List aG)).length=R:=fun k hk=>by rw[dn,lK,Bf];omega
 have hY:∀ k (Z:List aG),k<R->(dI k C f++[Z]++List.replicate (R-k-1) ([]:List aG)).length=R:=fun k Z hk=>by rw[dn,dn,lK,Bf];simp;omega
 refine⟨by omega,by rw[Nat.sub_zero],fun i=>⟨fun h1=>?_,fun h1=>?_⟩⟩
 ·have hi:i.1<R:=by simpa [dB] using h1
  simp only[dB,nameAt,bZ,hX i.1 i.2,hY i.1 _ hi,uy,jy]
  have e1:((List.range R).set i.1 R).getD i.1 0=R:=by simp[bf,hi]
  have e2:rowAt (dI i.1 C f++List.replicate (R-i.1) []++[List.replicate C bF]) R=List.replicate C bF:=by
   have:=a5s (T:=[]) (hX i.1 i.2) (List.replicate C bF);rwa [Ai] at this
  have e3:=b0v (dI i.1 C f++List.replicate (R-i.1) []) (List.replicate C bF) (k:=i.1) (by rw[hX i.1 i.2];exact hi)
  rw[hX i.1 i.2,b0w (lK _ _ _) hi] at e3
  rw[e1,e2,e3,Bf]
  refine⟨⟨by omega,by omega,by omega,by omega,hi⟩,⟨by omega,by omega,hi⟩,⟨b3W R i.1,by simp⟩,fun q=>⟨fun h2=>?_,fun h2=>?_⟩⟩
  ·have hq:q.1<C:=by omega
   have hl:(List.map (fun j=>dM (f i.1 j)) (List.range q.1)++List.replicate (C-q.1) bF).length=C:=by simp;omega
   rw[a5s (lK _ _ _),hl]
   refine⟨⟨by omega,by omega,hi,hP _ _ hi hq,by omega,by omega,hq⟩,⟨q.1+1,by omega⟩,by simp only;omega,by rw[aJ (by omega) (by omega)];rfl,?_⟩
   rw[b0y (lK _ _ _),b0x (fun j=>dM (f i.1 j)) bF hq]
  ·have hq:q.1=C:=by have:=q.2;omega
   refine⟨⟨i.1+1,by omega⟩,by simp only;omega,by rw[aJ (by omega) (by omega)];rfl,?_⟩
   rw[hq,Nat.sub_self,List.replicate_zero,Ai,a7P,Nat.sub_sub]
 ·have hi:i.1=R:=by have:=i.2;simp only[dB,Bf] at h1;omega
  rw[hi,Nat.sub_self,List.replicate_zero,Ai]
  exact hF
def DF (m n:Int) (f:Nat->Nat->Rat):List Ann:=[.inv {k:Nat // k<=m.toNat} (fun k=>[(14,.val tI (k.1:Int))]) (fun k=>[(11,.mat 39 47 tR none (dI k.1 n.toNat f++List.replicate (m.toNat-k.1) []) 0)]) (fun k=>m.toNat-k.1) ⟨0,by omega⟩ (fun k=>[
 .inv {q:Nat // q<=n.toNat} (fun q=>[(27,.val tI (q.1:Int)),(20,.any),(21,.any),(24,.any),(25,.any)]) (fun q=>[(11,.mat 39 47 tR none (dI k.1 n.toNat f++[(List.range q.1).map (fun j=>dM (f k.1 j))++List.replicate (n.toNat-q.1) bF]++List.replicate (m.toNat-k.1-1) []) 0)]) (fun q=>n.toNat-q.1) ⟨0,by omega⟩ (fun _=>[])])]
abbrev LKm:LK:=.mat 39 47 tR
noncomputable def a6B (T:List Ty) (ok:(nest T).den->Int->Int->Prop) (g:(nest T).den->Nat->Nat->Rat):Ctr:=⟨tI::tI::T,[tQ],fun x=>ok x.2.2 x.1 x.2.1,fun x=>(g x.2.2 (show Int from x.1).toNat (show Int from x.2.1).toNat,())⟩
def TI (T:List Ty) (ok:(nest T).den->Int->Int->Prop) (x:(nest [tI,tI,nest T]).den):Prop:=∃ R C:Nat,(show Int from x.1)=R/\(show Int from x.2.1)=C/\R<=1000/\C<=1000/\∀ i j:Nat,i<R->j<C->ok x.2.2.1 i j
noncomputable def XP (F:FuncId) (T:List Ty) (ok:(nest T).den->Int->Int->Prop) (g:(nest T).den->Nat->Nat->Rat):lM:=.mk (dec:=fun x=>⟨Classical.propDecidable _⟩) LKm [tI,tI,.clo F (nest T)] (fun x=>TI T ok x) (fun x=>dI (show Int from x.1).toNat (show Int from x.2.1).toNat (g x.2.2.1))
def sm:Nat->(Nat->Rat)->Rat
 | 0,_=>0
 | n+1,f=>sm n f+f n
theorem a2x {f g:Nat->Rat}:∀ n,(∀ i,i<n->f i=g i)->sm n f=sm n g
 | 0,_=>rfl
 | n+1,h=>by show sm n f+f n=sm n g+g n;rw[a2x n (fun i hi=>h i (by omega)),h n (by omega)]
abbrev Mt:=Nat->Nat->Rat
def mm (n:Nat) (a b:Mt):Mt:=fun i j=>sm n fun k=>a i k*b k j
def tr (a:Mt):Mt:=fun i j=>a j i
def fk (e:Mt) (j:Nat):Nat->Nat->Nat
 | r,0=>r
 | r,n+1=>if e r j=0 then fk e j (r+1) n else r
theorem b5X (e:Mt) (j:Nat):∀ n r,r<=fk e j r n/\fk e j r n<=r+n
 | 0,r=>⟨aj _,aj _⟩
 | n+1,r=>by
  have:=b5X e j n (r+1)
  unfold fk;split<;>omega
theorem a4Z (e:Mt) (j:Nat):∀ n r i,r<=i->i<fk e j r n->e i j=0
 | 0,r,i,h1,h2=>by unfold fk at h2;omega
 | n+1,r,i,h1,h2=>by
  unfold fk at h2;split at h2
  ·rename_i h0
   by_cases h:i=r
   ·rw[h];exact h0
   ·exact a4Z e j n (r+1) i (by omega) h2
  ·omega
theorem b5Y (e:Mt) (j:Nat):∀ n r,fk e j r n<r+n->e (fk e j r n) j≠0
 | 0,r,h=>by unfold fk at h;omega
 | n+1,r,h=>by
  unfold fk at h ⊢;split at h
  ·rename_i h0;rw[iw h0];exact b5Y e j n (r+1) (by omega)
  ·rename_i h0;rw[eu h0];exact h0
theorem c2X (e:Mt) (j r n k:Nat) (h1:r<=k) (h2:k<=r+n) (hz:∀ i,r<=i->i<k->e i j=0) (hn:k<r+n->e k j≠0):fk e j r n=k:=by
 have ⟨a1,a2⟩:=b5X e j n r
 rcases Nat.lt_trichotomy (fk e j r n) k with h|h|h
 ·exact absurd (hz _ a1 h) (b5Y e j n r (by omega))
 ·exact h
 ·exact absurd (a4Z e j n r k h1 h) (hn (by omega))
def oD (e:Mt) (r k:Nat):Mt:=fun i=>if i=r then e k else if i=k then e r else e i
def c4h (e:Mt) (r k j:Nat):Mt:=fun i c=>if i=r then e k c / e k j else oD e r k i c-oD e r k i j*(e k c / e k j)
def red (R:Nat) (e:Mt):Nat->Mt × List Nat
 | 0=>(e,[])
 | n+1 =>
  if fk (red R e n).1 n (red R e n).2.length (R-(red R e n).2.length)=R then red R e n
  else (c4h (red R e n).1 (red R e n).2.length (fk (red R e n).1 n (red R e n).2.length (R-(red R e n).2.length)) n,(red R e n).2++[n])
section
section
variable {R n:Nat} {e m:Mt} {p:List Nat}
def xs (m:Mt) (p:List Nat) (q:Nat):Nat->Rat:=fun c=>if c ∈ p then m (p.idxOf c) q else 0
end
end
def ma (a b:Mt):Mt:=fun i j=>a i j+b i j
def ms (a b:Mt):Mt:=fun i j=>a i j-b i j
def dt (n:Nat) (x y:Nat->Rat):Rat:=sm n fun i=>x i*y i
def Cdn (e:Mt) (R C K:Nat):Prop:=∃ D:Nat,0<D/\nsz D<=K/\∀ i,i<R->∀ j,j<C->∃ z:Int,e i j*(D:Nat)=(z:Int)/\isz z<=K
theorem b4f {D:Nat} (h:0<D):((D:Nat):Rat)≠0:=fun h1=>by
 have:((D:Nat):Rat)=((0:Nat):Rat):=h1
 have:=Rat.natCast_inj.mp this;omega
theorem Cdn.rsz {e:Mt} {R C K:Nat} (H:Cdn e R C K) {i j:Nat} (h1:i<R) (h2:j<C):rsz (e i j)<=K:=by
 obtain⟨D,h0,hD,h⟩:=H
 obtain⟨z,hz,hs⟩:=h i h1 j h2
 have e1:e i j=Rat.divInt z D:=by
  rw[Rat.divInt_eq_div,<-hz,Rat.div_def]
  have:((D:Int):Rat)=((D:Nat):Rat):=Rat.intCast_natCast D
  rw[this,Rat.mul_assoc,Ak _ (b4f h0)];grind
 rw[e1]
 exact qR _ _ (by omega) hs (by unfold isz;simpa using hD)
theorem Cdn.congr {e f:Mt} {R C K:Nat} (H:Cdn e R C K) (h:∀ i,i<R->∀ j,j<C->f i j=e i j):Cdn f R C K:=by
 obtain⟨D,h0,hD,hh⟩:=H
 exact⟨D,h0,hD,fun i h1 j h2=>by rw[h i h1 j h2];exact hh i h1 j h2⟩
theorem FY {f:Nat->Rat} {K:Nat}:∀ n,(∀ i,i<n->rsz (f i)<=K)->rsz (sm n f)<=n*(K+1)+1
 | 0,_=>by show rsz 0<=_;rw[show rsz 0=1 by decide +kernel];omega
 | n+1,h=>by
  have h1:=FY n (fun i hi=>h i (by omega))
  have h2:=h n (by omega)
  have h3:=gW (sm n f) (f n)
  show rsz (sm n f+f n)<=_
  rw[zf];omega
def oM (x y:LQ') (k:Nat):Rat:=sm k fun i=>lv x i*lv y i
def a3d (x y:LQ'):Prop:=x.length=y.length/\x.length<=64/\∀ i,i<x.length->rsz (lv x i)<=1000000/\rsz (lv y i)<=1000000
theorem a8X {x y:LQ'} (h:a3d x y) {k:Nat} (hk:k<=x.length):rsz (oM x y k)<=200000000:=by
 have h1:=FY (K:=2000000) (f:=fun i=>lv x i*lv y i) k (fun i hi=>by
  have ⟨a,b⟩:=h.2.2 i (by omega)
  have:=cO (lv x i) (lv y i);show rsz (lv x i*lv y i)<=_;omega)
 have h2:=h.2.1
 have:k*(2000000+1)<=64*2000001:=vw (by omega) (by omega)
 show rsz (sm k _)<=_
 omega
theorem MJ {x:Rat}:sgn x.num=0↔x=0:=⟨fun h=>Ec.mp (vg.1 h),fun h=>by rw[h];rfl⟩
noncomputable def c2j:Ctr:=⟨[.list tQ,.list tQ],[tQ],fun x=>a3d x.1 x.2.1,fun x=>(oM x.1 x.2.1 (show LQ' from x.1).length,())⟩
theorem a8W:aH Tryz.prog 233 c2j:=by
 refine mG ((((nil0.ad sN).ad vN).ad sF).ad vS) [4,5,7] Tryz.func233 rfl (by decide) (fun x=>[.inv {k:Nat // k<=(show LQ' from x.1).length} (fun k=>[(11,.val tI (k.1:Int))]) (fun k=>[(4,.box [⟨tR,bF⟩]),(5,.box [⟨tQ,oM x.1 x.2.1 k.1⟩])]) (fun k=>(show LQ' from x.1).length-k.1) ⟨0,by omega⟩ (fun _=>[])]) (fun x hp=>?_)
 obtain⟨x,y,u⟩:=x
 change List Rat at x
 change List Rat at y
 refine aO ((bP 0/\True)/\(asT Int 0=0/\asT aG { ok:=false,x:=0,g:=aC Nat,h:=aC Nat }=bF/\aV 0=oM x y 0/\True)/\∀ (i:{ k:Nat // k<=List.length x }),let A₁:=(aB (aA i)).toNat;let A₂:=(Rat.num (List.getD x A₁ 0));let A₀:=((sgn A₂ != 0)==true);let aN:=(A₀=true->A₀=true/\True);asT Bool true=true/\ifB (decide (aB (aA i)<aB x.length)) ((0<=aB (aA i)/\aB (aA i)<aB x.length/\True)/\(rsz (List.getD x A₁ 0)<=1000000000/\(A₀=true->A₀=true/\A₀=true/\0<=aB (aA i)/\aB (aA i)<aB y.length/\True)/\aN/\(A₀=true->A₀=true/\rsz (List.getD y A₁ 0)<=1000000000/\True)/\aN/\((sgn A₂ != 0)=true->A₀=true)/\True)/\ifB (bif sgn A₂ != 0 then sgn (Rat.num (List.getD y A₁ 0)) != 0 else false) ((0<=aB (aA i)/\aB (aA i)<aB y.length/\s44 (List.getD x A₁ 0) (List.getD y A₁ 0)/\s44 (oM x y (aA i)) (List.getD x A₁ 0*List.getD y A₁ 0)/\True)/\∃ (i':{ k:Nat // k<=List.length x }),List.length x-aA i'<List.length x-aA i/\IntKind.wrap IntKind.i64 (aB (aA i)+1)=aB (aA i')/\asT aG bF=bF/\oM x y (aA i)+List.getD x A₁ 0*List.getD y A₁ 0=oM x y (aA i')/\True) (∃ (i':{ k:Nat // k<=List.length x }),List.length x-aA i'<List.length x-aA i/\IntKind.wrap IntKind.i64 (aB (aA i)+1)=aB (aA i')/\asT aG bF=bF/\oM x y (aA i)=oM x y (aA i')/\True)) (True/\oM x y (aA i)=oM x y x.length/\True)) (by kernel_rfl) ?_
 have hp:a3d x y:=hp
 have hZ:(⟨false,0,[],[]⟩:aG)=bF:=rfl
 dsimp only[aB,asT,aA,aC] at *
 simp only[hZ,Int.toNat_natCast,jS,gy,oz,Ee,Dk]
 have hs:=fun k (hk:k<=x.length)=>a8X hp hk
 obtain⟨hl,h64,hr⟩:=hp
 refine⟨by unfold bP;omega,rfl,fun i=>⟨fun h1=>?_,fun h1=>?_⟩⟩
 ·have hi:i.1<x.length:=by omega
  have a1:rsz (x.getD i.1 0)<=1000000:=(hr i.1 hi).1
  have a2:rsz (y.getD i.1 0)<=1000000:=(hr i.1 hi).2
  have a3:=hs i.1 i.2
  have a4:=cO (x.getD i.1 0) (y.getD i.1 0)
  refine⟨⟨by omega,h1⟩,⟨by omega,fun h=>⟨h,h,by omega,by omega⟩,fun h=>h,fun h=>⟨h,by omega⟩,fun h=>h,fun h=>by rw[h];rfl⟩,fun h=>⟨⟨by omega,by omega,⟨by omega,by omega⟩,by omega,by omega⟩,⟨i.1+1,by omega⟩,by simp only;omega,by rw[aJ (by omega) (by omega)];rfl,rfl⟩,fun h=>⟨⟨i.1+1,by omega⟩,by simp only;omega,by rw[aJ (by omega) (by omega)];rfl,?_⟩⟩
  have hz:x.getD i.1 0*y.getD i.1 0=0:=by
   by_cases hx:sgn (x.getD i.1 0).num=0
   ·have h9:x.getD i.1 0=0:=MJ.mp hx
    rw[h9];grind
   ·rw[show (sgn (x.getD i.1 0).num != 0)=true from bne_iff_ne.mpr hx] at h
    have h:(sgn (y.getD i.1 0).num != 0)=false:=h
    have h9:y.getD i.1 0=0:=MJ.mp (by simpa using h)
    rw[h9];grind
  show sm i.1 _=sm i.1 _+x.getD i.1 0*y.getD i.1 0
  rw[hz];grind
 ·have:i.1=x.length:=by have:=i.2;omega
  rw[this]
abbrev TCo:List Ty:=[.ref tM]
def b4o (c:(nest TCo).den) (i j:Int):Prop:=0<=i/\i.toNat<(show MQ from c.1).length/\0<=j/\j.toNat<((show MQ from c.1).getD i.toNat []).length
def gCo (c:(nest TCo).den) (i j:Nat):Rat:=ent c.1 i j
theorem WL:aH Tryz.prog 276 (a6B TCo b4o gCo):=by
 refine mG nil0 [5] Tryz.func276 rfl (by decide) (fun x=>[]) (fun x hp=>?_)
 obtain⟨i,j,c⟩:=x
 change Int at i
 change Int at j
 obtain⟨a,u⟩:=c
 change List (List Rat) at a
 refine aO ((0<=i/\i<aB a.length/\0<=j/\j<aB (List.getD a i.toNat (aC Rat)).length/\True)/\True/\List.getD (List.getD a i.toNat (aC Rat)) j.toNat 0=ent a i.toNat j.toNat/\True) (by kernel_rfl) ?_
 try dsimp only[aB,asT,aA,aC] at *
 have h1:0<=i/\i.toNat<a.length/\0<=j/\j.toNat<(a.getD i.toNat []).length:=hp
 exact⟨⟨h1.1,by omega,h1.2.2.1,by omega,trivial⟩,trivial,rfl,trivial⟩
abbrev TTu:List Ty:=[.ref tM]
def b4s (c:(nest TTu).den) (i j:Int):Prop:=0<=i/\0<=j/\j.toNat<(show MQ from c.1).length/\i.toNat<((show MQ from c.1).getD j.toNat []).length
def gTu (c:(nest TTu).den) (i j:Nat):Rat:=ent c.1 j i
theorem WR:aH Tryz.prog 273 (a6B TTu b4s gTu):=by
 refine mG nil0 [5] Tryz.func273 rfl (by decide) (fun x=>[]) (fun x hp=>?_)
 obtain⟨i,j,c⟩:=x
 change Int at i
 change Int at j
 obtain⟨a,u⟩:=c
 change List (List Rat) at a
 refine aO ((0<=j/\j<aB a.length/\0<=i/\i<aB (List.getD a j.toNat (aC Rat)).length/\True)/\True/\List.getD (List.getD a j.toNat (aC Rat)) i.toNat 0=ent a j.toNat i.toNat/\True) (by kernel_rfl) ?_
 try dsimp only[aB,asT,aA,aC] at *
 have h1:0<=i/\0<=j/\j.toNat<a.length/\i.toNat<(a.getD j.toNat []).length:=hp
 exact⟨⟨h1.2.1,by omega,h1.1,by omega,trivial⟩,trivial,rfl,trivial⟩
abbrev TMu:List Ty:=[.ref tM,.ref tM]
def b4p (c:(nest TMu).den) (i j:Int):Prop:=0<=i/\i.toNat<(show MQ from c.1).length/\0<=j/\j.toNat<(show MQ from c.2.1).length/\a3d ((show MQ from c.1).getD i.toNat []) ((show MQ from c.2.1).getD j.toNat [])
def gMu (c:(nest TMu).den) (i j:Nat):Rat:=oM ((show MQ from c.1).getD i []) ((show MQ from c.2.1).getD j []) ((show MQ from c.1).getD i []).length
theorem WM:aH Tryz.prog 232 (a6B TMu b4p gMu):=by
 refine mG (nil0.ad a8W) [6] Tryz.func232 rfl (by decide) (fun x=>[]) (fun x hp=>?_)
 obtain⟨i,j,c⟩:=x
 change Int at i
 change Int at j
 obtain⟨a,b,u⟩:=c
 change List (List Rat) at a
 change List (List Rat) at b
 refine aO ((0<=i/\i<aB a.length/\0<=j/\j<aB b.length/\a3d (List.getD a i.toNat (aC Rat)) (List.getD b j.toNat (aC Rat))/\True)/\True/\oM (List.getD a i.toNat (aC Rat)) (List.getD b j.toNat (aC Rat)) (List.getD a i.toNat (aC Rat)).length=gMu (a,b,u) i.toNat j.toNat/\True) (by kernel_rfl) ?_
 try dsimp only[aB,asT,aA,aC] at *
 have h1:0<=i/\i.toNat<a.length/\0<=j/\j.toNat<b.length/\a3d (a.getD i.toNat []) (b.getD j.toNat []):=hp
 exact⟨⟨h1.1,by omega,h1.2.2.1,by omega,h1.2.2.2.2,trivial⟩,trivial,rfl,trivial⟩
theorem oW:NOk Tryz.prog 184 (XP 276 TCo b4o gCo):=by
 refine AZ (nil0.ad WL) ⟨[],[],[(11,tR)]⟩ Tryz.func184 rfl (by decide) (fun x=>DF x.1 x.2.1 (gCo x.2.2.1)) (fun x hp=>?_)
 obtain⟨m,n,c,u⟩:=x
 obtain⟨R,C,hR,hC,r2,c2,hP⟩:=hp
 change m=(R:Int) at hR
 change n=(C:Int) at hC
 subst hR hC
 refine aO (AV R C (gCo c) (b4o c) (fun y=>dI R C (gCo c)=y)) (by kernel_rfl) ?_
 exact sV r2 c2 hP rfl
theorem pF:NOk Tryz.prog 184 (XP 273 TTu b4s gTu):=by
 refine AZ (nil0.ad WR) ⟨[],[],[(11,tR)]⟩ Tryz.func184 rfl (by decide) (fun x=>DF x.1 x.2.1 (gTu x.2.2.1)) (fun x hp=>?_)
 obtain⟨m,n,c,u⟩:=x
 obtain⟨R,C,hR,hC,r2,c2,hP⟩:=hp
 change m=(R:Int) at hR
 change n=(C:Int) at hC
 subst hR hC
 refine aO (AV R C (gTu c) (b4s c) (fun y=>dI R C (gTu c)=y)) (by kernel_rfl) ?_
 exact sV r2 c2 hP rfl
theorem oZ:NOk Tryz.prog 184 (XP 232 TMu b4p gMu):=by
 refine AZ (nil0.ad WM) ⟨[],[],[(11,tR)]⟩ Tryz.func184 rfl (by decide) (fun x=>DF x.1 x.2.1 (gMu x.2.2.1)) (fun x hp=>?_)
 obtain⟨m,n,c,u⟩:=x
 obtain⟨R,C,hR,hC,r2,c2,hP⟩:=hp
 change m=(R:Int) at hR
 change n=(C:Int) at hC
 subst hR hC
 refine aO (AV R C (gMu c) (b4p c) (fun y=>dI R C (gMu c)=y)) (by kernel_rfl) ?_
 exact sV r2 c2 hP rfl
theorem b2w (x:List Rat):iR (fun(x:Ty.den (Ty.lf Lf.rat))=>dH []) x:=iT.mpr fun _ _=>trivial
theorem vJ (a:MQ):iR (fun(x:Ty.den (Ty.list (Ty.lf Lf.rat)))=>dH [iR (fun(x:Ty.den (Ty.lf Lf.rat))=>dH []) x]) a:=iT.mpr fun r _=>⟨b2w r,trivial⟩
theorem ifF {b:Bool} {p q:Prop} (h:b=false) (hq:q):ifB b p q:=by subst h;exact hq
theorem ifT {b:Bool} {p q:Prop} (h:b=true) (hp:p):ifB b p q:=by subst h;exact hp
theorem a0m {x:Int} (h:x=0):(x != 0)=false:=by rw[h];rfl
theorem a4E {l:ML} (h:∀ a ∈ l,kC a=0):KX l=0:=by
 unfold KX
 rw[show l.any (fun a=>kC a != 0)=false from Dn.mpr fun a ha=>by rw[h a ha];decide];rfl
theorem okM.pos {a:MQ} (h:okM a):0<a.length:=by have:=h.1.2.2.1;omega
theorem okM.poz {a:MQ} (h:okM a):(0:Int)<(a.length:Int):=by have:=h.pos;omega
theorem okM.r64 {a:MQ} (h:okM a):a.length<=64:=h.1.2.2.2.1
theorem okM.c64 {a:MQ} (h:okM a):wdM a<=64:=h.1.2.2.2.2.2
theorem okM.row {a:MQ} (h:okM a) {i:Nat} (hi:i<a.length):(a.getD i []).length=wdM a:=h.1.row hi
noncomputable def b4d:lM:=.mk LKm [tM] (fun x=>okM x.1) (fun x=>dI (show MQ from x.1).length (wdM (show MQ from x.1)) (ent x.1))
theorem a8N:NOk Tryz.prog 244 b4d:=by
 refine AZ ((((nil0.ad WL).an oW).an pF).an oZ) ⟨[],[],[]⟩ Tryz.func244 rfl (by decide) (fun x=>[]) (fun x hp=>?_)
 obtain⟨a,u⟩:=x
 change List (List Rat) at a
 refine aO ((asT Int 0<=0/\0<aB a.length/\TI TCo b4o (aB a.length,aB (List.getD a 0 (aC Rat)).length,(a,()),())/\True)/\dI a.length (wdM a) (ent a)=dI (aB a.length).toNat (aB (List.getD a 0 (aC Rat)).length).toNat (gCo (a,()))) (by kernel_rfl) ?_
 have ha:okM a:=hp
 exact⟨⟨Dh 0,ha.poz,⟨a.length,wdM a,rfl,rfl,by have:=ha.r64;omega,by have:=ha.c64;omega,fun i j hi hj=>⟨xk i,hi,xk j,by show j<(a.getD i []).length;rw[ha.row hi];exact hj⟩⟩,trivial⟩,rfl⟩
noncomputable def b2G:Ctr:=⟨[tM],[tM],fun x=>okM x.1,fun x=>(tab (wdM (show MQ from x.1)) (show MQ from x.1).length (tr (ent x.1)),())⟩
theorem VA:aH Tryz.prog 231 b2G:=by
 refine aI ((((nil0.ad WR).an oW).an pF).an oZ) ⟨[],[],[]⟩ Tryz.func231 rfl (by decide) (fun x=>[]) (fun x hp=>?_)
 obtain⟨a,u⟩:=x
 change List (List Rat) at a
 refine aO ((asT Int 0<=0/\0<aB a.length/\TI TTu b4s (aB (List.getD a 0 (aC Rat)).length,aB a.length,(a,()),())/\True)/\(iR (fun(x:Ty.den (Ty.list (Ty.lf Lf.gQ)))=>dH (iR (fun(x:Ty.den (Ty.lf Lf.gQ))=>dH ((aG.ok x=true)::aC Cd)) x::aC Cd)) (dI (aB (List.getD a 0 (aC Rat)).length).toNat (aB a.length).toNat (gTu (a,())))/\True)/\List.map (fun(xs:Ty.den (Ty.list (Ty.lf Lf.gQ)))=>List.map (fun(x:Ty.den (Ty.lf Lf.gQ))=>aG.x x) xs) (dI (aB (List.getD a 0 (aC Rat)).length).toNat (aB a.length).toNat (gTu (a,())))=tab (wdM a) a.length (tr (ent a))/\True) (by kernel_rfl) ?_
 have ha:okM a:=hp
 exact⟨⟨Dh 0,ha.poz,⟨wdM a,a.length,rfl,rfl,by have:=ha.c64;omega,by have:=ha.r64;omega,fun i j hi hj=>⟨xk i,xk j,hj,by show i<(a.getD j []).length;rw[ha.row hj];exact hi⟩⟩,trivial⟩,⟨KH _ _ _,trivial⟩,UQ _ _ _,trivial⟩
def sqC (a:MQ):Int:=if a.length=wdM a then 0 else 4
noncomputable def b2E:Ctr:=⟨[tM],[tI],fun x=>okM x.1,fun x=>(sqC x.1,())⟩
theorem a4f:aH Tryz.prog 234 b2E:=by
 refine aI (nil0.ad qL) ⟨[],[],[]⟩ Tryz.func234 rfl (by decide) (fun x=>[]) (fun x hp=>?_)
 obtain⟨a,u⟩:=x
 change List (List Rat) at a
 refine aO (let A₀:=(List.map (fun(xs:Ty.den (Ty.list (Ty.lf Lf.rat)))=>List.map (fun(x:Ty.den (Ty.lf Lf.rat))=>dM x) xs) a);(iR (fun(x:Ty.den (Ty.list (Ty.lf Lf.rat)))=>dH (iR (fun(x:Ty.den (Ty.lf Lf.rat))=>dH (aC Cd)) x::aC Cd)) a/\pV A₀/\True)/\ifB (kC A₀ != 0) (True/\kC A₀=sqC a/\True) ((asT Int 0<=0/\0<aB a.length/\True)/\ifB (aB a.length != aB (List.getD a 0 (aC Rat)).length) (True/\4=sqC a/\True) (True/\0=sqC a/\True))) (by kernel_rfl) ?_
 have ha:okM a:=hp
 dsimp only[aB,asT,aA,aC] at *
 refine⟨⟨vJ a,ha.short,trivial⟩,ifF (a0m ha.chk) ⟨⟨Dh 0,ha.poz,trivial⟩,?_⟩⟩
 by_cases h:a.length=wdM a
 ·exact ifF (by rw[a5i,jl.mpr h];rfl) ⟨trivial,(iw h).symm,trivial⟩
 ·exact ifT (by rw[a5i,uo.mpr h];rfl) ⟨trivial,(eu h).symm,trivial⟩
noncomputable def b2F:Ctr:=⟨[tM],[tM,tI],fun x=>okM x.1,fun x=>(tab (wdM (show MQ from x.1)) (show MQ from x.1).length (tr (ent x.1)),(0:Int),())⟩
theorem UW:aH Tryz.prog 153 b2F:=by
 refine aI ((nil0.ad qL).ad VA) ⟨[],[],[]⟩ Tryz.func153 rfl (by decide) (fun x=>[]) (fun x hp=>?_)
 obtain⟨a,u⟩:=x
 change List (List Rat) at a
 refine aO (let A₀:=(List.map (fun(xs:Ty.den (Ty.list (Ty.lf Lf.rat)))=>List.map (fun(x:Ty.den (Ty.lf Lf.rat))=>dM x) xs) a);(iR (fun(x:Ty.den (Ty.list (Ty.lf Lf.rat)))=>dH (iR (fun(x:Ty.den (Ty.lf Lf.rat))=>dH (aC Cd)) x::aC Cd)) a/\pV A₀/\True)/\ifB (kC A₀ != 0) (True/\aC (List Rat)=tab (wdM a) a.length (tr (ent a))/\True/\kC A₀=0/\True) ((okM a/\True)/\True/\tab (wdM a) a.length (tr (ent a))=tab (wdM a) a.length (tr (ent a))/\True/\asT Int 0=0/\True)) (by kernel_rfl) ?_
 have ha:okM a:=hp
 exact⟨⟨vJ a,ha.short,trivial⟩,ifF (a0m ha.chk) ⟨⟨ha,trivial⟩,trivial,rfl,trivial,rfl,trivial⟩⟩
noncomputable def cMul:Ctr:=⟨[tM,tM],[tM,tI],fun x=>okM x.1/\okM x.2.1/\wdM (show MQ from x.1)=(show MQ from x.2.1).length/\szM x.1 1000000/\szM x.2.1 1000000,fun x=>(tab (show MQ from x.1).length (wdM (show MQ from x.2.1)) (mm (show MQ from x.2.1).length (ent x.1) (ent x.2.1)),(0:Int),())⟩
theorem a5x:aH Tryz.prog 152 cMul:=by
 refine aI ((((((nil0.ad NQ).ad WM).an oW).an pF).an oZ).ad VA) ⟨[7],[],[]⟩ Tryz.func152 rfl (by decide) (fun x=>[]) (fun x hp=>?_)
 obtain⟨a,b,u⟩:=x
 change List (List Rat) at a
 change List (List Rat) at b
 refine aO (let aN:=(a::b::aC (List (List Rat)));let aU:=(mm b.length (ent a) (ent b));let aX:=(a,tab (wdM b) b.length (tr (ent b)),());let bJ:=(Ty.list (Ty.lf Lf.rat));let A₀:=(fun(xs:Ty.den (Ty.list bJ))=>List.map (fun(xs:Ty.den bJ)=>List.map (fun(x:Ty.den (Ty.lf Lf.rat))=>dM x) xs) xs);let A₂:=(fun(x:Ty.den bJ)=>dH (iR (fun(x:Ty.den (Ty.lf Lf.rat))=>dH (aC Cd)) x::aC Cd));let dA:=(List.getD b 0 (aC Rat)).length;let A₁:=(dI (aB a.length).toNat (aB dA).toNat (gMu aX));(((iR A₂ a/\True)/\(iR A₂ b/\True)/\True)/\(List.length (List.map A₀ aN)<=1000000/\∀ (a_1:List (List aG)),a_1 ∈ List.map A₀ aN->pV a_1)/\True)/\ifB (KX (List.map A₀ aN) != 0) (True/\aC (List Rat)=tab a.length (wdM b) aU/\True/\KX (List.map A₀ aN)=0/\True) ((asT Int 0<=0/\0<aB a.length/\True)/\ifB (aB (List.getD a 0 (aC Rat)).length != aB b.length) (True/\aC (List Rat)=tab a.length (wdM b) aU/\True/\asT Int 4=0/\True) ((okM b/\True)/\(asT Int 0<=0/\0<aB b.length/\TI TMu b4p (aB a.length,aB dA,aX,())/\True)/\(iR (fun(x:Ty.den (Ty.list (Ty.lf Lf.gQ)))=>dH (iR (fun(x:Ty.den (Ty.lf Lf.gQ))=>dH ((aG.ok x=true)::aC Cd)) x::aC Cd)) A₁/\True)/\List.map (fun(xs:Ty.den (Ty.list (Ty.lf Lf.gQ)))=>List.map (fun(x:Ty.den (Ty.lf Lf.gQ))=>aG.x x) xs) A₁=tab a.length (wdM b) aU/\True/\asT Int 0=0/\True))) (by kernel_rfl) ?_
 have hp:okM a/\okM b/\wdM a=b.length/\szM a 1000000/\szM b 1000000:=hp
 obtain⟨ha,hb,hw,sa,sb⟩:=hp
 have hk:KX [liftM a,liftM b]=0:=a4E fun m hm=>by
  rcases jw.mp hm with rfl|hm
  ·exact ha.chk
  ·rw[ng.mp hm];exact hb.chk
 have hs:∀ m ∈ [liftM a,liftM b],pV m:=fun m hm=>by
  rcases jw.mp hm with rfl|hm
  ·exact ha.short
  ·rw[ng.mp hm];exact hb.short
 have hrow:∀ j,j<wdM b->(tab (wdM b) b.length (tr (ent b))).getD j []=(List.range b.length).map (fun k=>ent b k j):=fun j hj=>DU hj
 have hd:∀ i,i<a.length->∀ j,j<wdM b->a3d (a.getD i []) ((tab (wdM b) b.length (tr (ent b))).getD j []):=fun i hi j hj=>by
  rw[hrow j hj]
  have hl:=ha.row hi
  refine⟨by rw[hl,hw];simp,by rw[hl];exact ha.c64,fun k hk=>?_⟩
  rw[hl] at hk
  refine⟨sa i hi k hk,?_⟩
  show rsz (((List.range b.length).map (fun k=>ent b k j)).getD k 0)<=_
  rw[wZ (by omega)];exact sb k (by omega) j hj
 refine⟨⟨⟨⟨vJ a,trivial⟩,⟨vJ b,trivial⟩,trivial⟩,⟨by show 2<=1000000;omega,hs⟩,trivial⟩,ifF (a0m hk) ⟨⟨Dh 0,ha.poz,trivial⟩,ifF (by dsimp only[aB];rw[a5i,jl.mpr hw];rfl) ⟨⟨hb,trivial⟩,⟨Dh 0,hb.poz,⟨a.length,wdM b,rfl,rfl,by have:=ha.r64;omega,by have:=hb.c64;omega,fun i j hi hj=>⟨xk i,hi,xk j,by show j<(tab _ _ _).length;rw[jW];exact hj,hd i hi j hj⟩⟩,trivial⟩,⟨KH _ _ _,trivial⟩,(UQ _ _ _).trans (mD fun i hi j hj=>?_),trivial,rfl,trivial⟩⟩⟩
 have hj:j<wdM b:=hj
 have hi:i<a.length:=hi
 show sm (a.getD i []).length (fun k=>lv (a.getD i []) k*lv ((tab (wdM b) b.length (tr (ent b))).getD j []) k)=sm b.length (fun k=>ent a i k*ent b k j)
 rw[ha.row hi,hw,hrow j hj]
 refine a2x _ fun k hk=>?_
 show ent a i k*((List.range b.length).map (fun k=>ent b k j)).getD k 0=_
 rw[wZ hk]
noncomputable def c2z:Ctr:=⟨[tQ,tQ],[tQ],fun x=>rsz x.1<=400000000/\rsz x.2.1<=400000000/\(show Rat from x.2.1)≠0,fun x=>((show Rat from x.1) / (show Rat from x.2.1),())⟩
theorem b1b:aH Tryz.prog 246 c2z:=by
 refine aI (nil0.ad OM) ⟨[4,5],[],[]⟩ Tryz.func246 rfl (by decide) (fun x=>[]) (fun x hp=>?_)
 obtain⟨a,b,u⟩:=x
 change Rat at a
 change Rat at b
 refine aO (((rsz a<=400000000/\rsz b<=400000000)/\True)/\(aG.ok (VQ 14 a b).1=true/\True)/\aG.x (VQ 14 a b).1=a / b/\True) (by kernel_rfl) ?_
 have hp:rsz a<=400000000/\rsz b<=400000000/\b≠0:=hp
 have e:VQ 14 a b=(dM (a / b),(0:Int),()):=eu hp.2.2
 rw[e]
 exact⟨⟨⟨hp.1,hp.2.1⟩,trivial⟩,⟨rfl,trivial⟩,rfl,trivial⟩
def qC (x:LR) (o:LQ') (k:Rat) (s t:Nat):LR:=(List.range x.length).map fun c=>if s<=c/\c<t then dM ((x.getD c bF).x-k*lv o c) else x.getD c bF
theorem b1Q (x:LR) (o:LQ') (k:Rat) (s t:Nat):(qC x o k s t).length=x.length:=by simp[qC]
theorem b5q {x:LR} {o:LQ'} {k:Rat} {s t c:Nat} (h:c<x.length):(qC x o k s t).getD c bF=if s<=c/\c<t then dM ((x.getD c bF).x-k*lv o c) else x.getD c bF:=wZ h
theorem b8f (x:LR):(List.range x.length).map (fun c=>x.getD c bF)=x:=by
 apply Ei
 ·simp
 ·intro i h1 h2;simp[bf,h2]
theorem a7O (x:LR) (o:LQ') (k:Rat) (s:Nat):qC x o k s s=x:=by
 unfold qC
 rw[show (fun c=>if s<=c/\c<s then dM ((x.getD c bF).x-k*lv o c) else x.getD c bF)=(fun c=>x.getD c bF) from funext fun c=>eu (by omega)]
 exact b8f x
theorem b1S {x:LR} {o:LQ'} {k:Rat} {s t:Nat} (h:s<=t):(qC x o k s t).set t (dM ((x.getD t bF).x-k*lv o t))=qC x o k s (t+1):=by
 unfold qC;rw[map_set]
 refine ku fun c _=>?_
 by_cases e:c=t
 ·subst e;rw[iw rfl,iw ⟨h,by omega⟩]
 ·rw[eu e]
  by_cases h2:s<=c/\c<t
  ·rw[iw h2,iw ⟨h2.1,by omega⟩]
  ·rw[eu h2,eu (by omega)]
theorem a7N {x:LR} {o:LQ'} {k:Rat} {s t:Nat} (hx:∀ q ∈ x,q=dM q.x) (h:lv o t=0):qC x o k s (t+1)=qC x o k s t:=by
 unfold qC
 refine ku fun c hc=>?_
 by_cases h2:s<=c/\c<t
 ·rw[iw h2,iw ⟨h2.1,by omega⟩]
 ·rw[eu h2]
  split
  ·have e:c=t:=by omega
   subst e
   have h3:x.getD c bF=dM (x.getD c bF).x:=cZ hx (oq.mp hc)
   rw[h,show (x.getD c bF).x-k*0=(x.getD c bF).x by grind,<-h3]
  ·rfl
theorem b1P {x:LR} {o:LQ'} {k:Rat} {s t:Nat} (h:x.length<=t):qC x o k s t=qC x o k s x.length:=by
 unfold qC
 refine ku fun c hc=>?_
 have:=oq.mp hc
 by_cases h2:s<=c
 ·rw[iw ⟨h2,by omega⟩,iw ⟨h2,by omega⟩]
 ·rw[eu (by omega),eu (by omega)]
noncomputable def c6N:lM:=.chg (.row 47 tR) [.list tQ,tQ,tI] [] (fun x y=>(∀ q ∈ (show LR from x),q=dM q.x)/\(show LR from x).length=(show LQ' from y.1).length/\(show LR from x).length<=1000/\0<=(show Int from y.2.2.1)/\(∀ q ∈ (show LR from x),rsz q.x<=400000000)/\rsz y.2.1<=100000000/\∀ q ∈ (show LQ' from y.1),rsz q<=100000000) (fun x y=>qC x y.1 y.2.1 (show Int from y.2.2.1).toNat (show LR from x).length) (fun _ _=>())
theorem c4i:NOk Tryz.prog 245 c6N:=by
 refine b4g (((nil0.ad sF).ad IU).ad vS) ⟨[],[],[]⟩ Tryz.func245 rfl (by decide) (fun x y=>[.inv {k:Nat // (show Int from y.2.2.1).toNat<=k} (fun k=>[(8,.val tI (k.1:Int))]) (fun k=>[(0,.row 47 tR (qC x y.1 y.2.1 (show Int from y.2.2.1).toNat k.1) 0)]) (fun k=>(show LR from x).length-k.1) ⟨(show Int from y.2.2.1).toNat,aj _⟩ (fun _=>[])]) (fun x y hp=>?_)
 obtain⟨o,k,s,u⟩:=y
 change List aG at x
 change List Rat at o
 change Rat at k
 change Int at s
 refine aO ((s=aB s.toNat/\x=qC x o k s.toNat s.toNat/\True)/\∀ (i:{ k:Nat // Int.toNat s<=k }),let A₀:=(qC x o k s.toNat (aA i));let A₁:=(aB (aA i)).toNat;let A₂:=(List.getD A₀ A₁ { ok:=false,x:=0,g:=aC Nat,h:=aC Nat });asT Bool true=true/\ifB (decide (aB (aA i)<aB A₀.length)) ((0<=aB (aA i)/\aB (aA i)<aB o.length/\rsz (List.getD o A₁ 0)<=1000000000/\True)/\ifB (sgn (Rat.num (List.getD o A₁ 0)) != 0) ((0<=aB (aA i)/\aB (aA i)<aB A₀.length/\Int.toNat (aB (aA i))<List.length A₀/\0<=aB (aA i)/\aB (aA i)<aB o.length/\s44 k (List.getD o A₁ 0)/\aG.ok A₂=true/\s44 (aG.x A₂) (k*List.getD o A₁ 0)/\0<=aB (aA i)/\aB (aA i)<aB A₀.length/\Int.toNat (aB (aA i))<List.length A₀/\True)/\∃ (i':{ k:Nat // Int.toNat s<=k }),List.length x-aA i'<List.length x-aA i/\IntKind.wrap IntKind.i64 (aB (aA i)+1)=aB (aA i')/\List.set A₀ A₁ (dM (aG.x A₂-k*List.getD o A₁ 0))=qC x o k s.toNat (aA i')/\True) (∃ (i':{ k:Nat // Int.toNat s<=k }),List.length x-aA i'<List.length x-aA i/\IntKind.wrap IntKind.i64 (aB (aA i)+1)=aB (aA i')/\qC x o k s.toNat (aA i)=qC x o k s.toNat (aA i')/\True)) (qC x o k s.toNat x.length=qC x o k s.toNat (aA i))) (by kernel_rfl) ?_
 have hp:(∀ q ∈ x,q=dM q.x)/\x.length=o.length/\x.length<=1000/\0<=s/\(∀ q ∈ x,rsz q.x<=400000000)/\rsz k<=100000000/\∀ q ∈ o,rsz q<=100000000:=hp
 obtain⟨hq,hl,hm,hs,zx,zk,zo⟩:=hp
 have hZ:(⟨false,0,[],[]⟩:aG)=bF:=rfl
 dsimp only[aB,asT,aA,aC] at *
 simp only[hZ,Int.toNat_natCast,jS,gy,oz,Ee,Dk,b1Q]
 refine⟨⟨by omega,(a7O _ _ _ _).symm⟩,fun i=>⟨fun h1=>?_,fun h1=>?_⟩⟩
 ·have hi:i.1<x.length:=by omega
  have z1:rsz (o.getD i.1 0)<=100000000:=cZ zo (by omega)
  have z2:rsz (x.getD i.1 bF).x<=400000000:=cZ (p:=fun q:aG=>rsz q.x<=400000000) zx hi
  have z3:=cO k (o.getD i.1 0)
  have e1:(qC x o k s.toNat i.1).getD i.1 bF=x.getD i.1 bF:=by rw[b5q hi,eu (by omega)]
  have e2:x.getD i.1 bF=dM (x.getD i.1 bF).x:=cZ hq hi
  rw[e1]
  refine⟨⟨by omega,by omega,by omega⟩,fun h2=>⟨⟨by omega,by omega,hi,by omega,by omega,⟨by omega,by omega⟩,by rw[e2];rfl,⟨by omega,by omega⟩,by omega,by omega,hi⟩,⟨i.1+1,by have:=i.2;omega⟩,by simp only;omega,by rw[aJ (by omega) (by omega)];rfl,b1S i.2⟩,fun h2=>⟨⟨i.1+1,by have:=i.2;omega⟩,by simp only;omega,by rw[aJ (by omega) (by omega)];rfl,?_⟩⟩
  have h9:lv o i.1=0:=MJ.mp (by simpa using h2)
  exact(a7N hq h9).symm
 ·exact(b1P (by omega)).symm
def mulM (a b:MQ):MQ:=tab a.length (wdM b) (mm b.length (ent a) (ent b))
def trM (a:MQ):MQ:=tab (wdM a) a.length (tr (ent a))
def QG (a b:MQ):MQ:=tab a.length (wdM a) (ma (ent a) (ent b))
def UO (a b:MQ):MQ:=tab a.length (wdM a) (ms (ent a) (ent b))
instance c6X (N:Nat) (p:Nat->Prop) [DecidablePred p]:Decidable (∀ i,i<N->p i):=Nat.decidableBallLT N (fun i _=>p i)
def CdM (a:MQ) (K:Nat):Prop:=Cdn (ent a) a.length (wdM a) K
theorem isM.len {a:MQ} {R C:Nat} (h:isM a R C):a.length=R:=h.1
theorem isM.self {a:MQ} {R C:Nat} (h:isM a R C):isM a a.length (wdM a):=by rw[h.len,h.wd];exact h
theorem CdM.sz {a:MQ} {K L:Nat} (H:CdM a K) (h:K<=L):szM a L:=fun i hi j hj=>ak (Cdn.rsz H hi hj) h
theorem CdM.ok {a:MQ} {R C K:Nat} (H:CdM a K) (h:isM a R C) (hK:K<=100000000):okM a:=⟨h.self,H.sz hK⟩
theorem isM.mul {a b:MQ} {R C D n:Nat} (h:isM a R C) (g:isM b n D):isM (mulM a b) R D:=by
 unfold mulM;rw[h.len,g.wd];exact DT h.2.2.1 h.2.2.2.1 g.2.2.2.2.1 g.2.2.2.2.2
theorem isM.trp {a:MQ} {R C:Nat} (h:isM a R C):isM (trM a) C R:=by
 unfold trM;rw[h.len,h.wd];exact DT h.2.2.2.2.1 h.2.2.2.2.2 h.2.2.1 h.2.2.2.1
theorem isM.add {a b:MQ} {R C:Nat} (h:isM a R C):isM (QG a b) R C:=by
 unfold QG;rw[h.len,h.wd];exact DT h.2.2.1 h.2.2.2.1 h.2.2.2.2.1 h.2.2.2.2.2
theorem isM.sub {a b:MQ} {R C:Nat} (h:isM a R C):isM (UO a b) R C:=by
 unfold UO;rw[h.len,h.wd];exact DT h.2.2.1 h.2.2.2.1 h.2.2.2.2.1 h.2.2.2.2.2
theorem a2z {R C:Nat} {f:Nat->Nat->Rat} {i j:Nat} (v:Rat) (hi:i<R):(tab R C f).set i (((tab R C f).getD i []).set j v)=tab R C (fun a b=>if a=i/\b=j then v else f a b):=by
 rw[DU hi,map_set]
 unfold tab;rw[map_set]
 refine ku fun k _=>?_
 by_cases e:k=i
 ·subst e;rw[iw rfl]
  refine ku fun d _=>?_
  show _=if k=k/\d=j then v else f k d
  by_cases e2:d=j
  ·rw[iw e2,iw ⟨rfl,e2⟩]
  ·rw[eu e2,eu (fun h=>e2 h.2)]
 ·rw[eu e]
  refine ku fun d _=>?_
  show _=if k=i/\d=j then v else f k d
  rw[eu (fun h=>e h.1)]
theorem a6f (R r k:Nat):((List.range R).set r k).set k r=(List.range R).map (fun i=>if i=k then r else if i=r then k else i):=by
 have h:=map_set (fun i=>i) R r k
 rw[List.map_id'] at h
 rw[h,map_set]
theorem c1p (R:Nat) {r k:Nat} (hr:r<R) (hk:k<R):(((List.range R).set r k).set k r).Nodup:=by
 rw[a6f]
 refine List.nodup_iff_pairwise_ne.mpr (List.pairwise_iff_getElem.mpr fun i j hi hj h=>?_)
 simp only[List.getElem_map,List.getElem_range]
 split<;>split<;>(try split)<;>(try split)<;>omega
theorem isM.c6M {a b:MQ} {R n C:Nat} (h:isM a R n) (g:isM b n C) {i j:Nat} (hi:i<R) (hj:j<C):ent (mulM a b) i j=mm n (ent a) (ent b) i j:=by
 unfold mulM;rw[h.len,g.wd,g.len];exact kQ hi hj
theorem isM.c1r {a:MQ} {R C:Nat} (h:isM a R C) {i j:Nat} (hi:i<C) (hj:j<R):ent (trM a) i j=ent a j i:=by
 unfold trM;rw[h.len,h.wd];exact kQ hi hj
theorem isM.c1J {a b:MQ} {R C:Nat} (h:isM a R C) {i j:Nat} (hi:i<R) (hj:j<C):ent (QG a b) i j=ent a i j+ent b i j:=by
 unfold QG;rw[h.len,h.wd];exact kQ hi hj
theorem isM.c4j {a b:MQ} {R C:Nat} (h:isM a R C) {i j:Nat} (hi:i<R) (hj:j<C):ent (UO a b) i j=ent a i j-ent b i j:=by
 unfold UO;rw[h.len,h.wd];exact kQ hi hj
def cdI (n:Int):Prop:=-1048576<=n/\n<=1048576
abbrev c4y:Type:=Int × Int × Unit
def m33 (K:Nat) (f:MQ):Prop:=isM f 3 3/\szM f K
theorem m33.mono {K L:Nat} {f:MQ} (h:m33 K f) (hl:K<=L):m33 L f:=⟨h.1,fun i hi j hj=>ak (h.2 i hi j hj) hl⟩
theorem m33.ok {K:Nat} {f:MQ} (h:m33 K f) (hK:K<=1000000):okM f/\szM f 1000000/\wdM f=3/\f.length=3:=⟨⟨by rw[h.1.len,h.1.wd];exact h.1,fun i hi j hj=>ak (h.2 i hi j hj) (by omega)⟩,fun i hi j hj=>ak (h.2 i hi j hj) (by omega),h.1.wd,h.1.len⟩
theorem m33.tr {K:Nat} {f:MQ} (h:m33 K f):m33 K (trM f):=by
 unfold trM
 rw[h.1.wd,h.1.len]
 have e:isM (tab 3 3 (_root_.Go.Proofs.YtbkocjmmbkifjaaGreat.tr (ent f))) 3 3:=DT (by omega) (by omega) (by omega) (by omega)
 refine⟨e,fun i hi j hj=>?_⟩
 rw[e.len] at hi
 rw[e.wd] at hj
 rw[kQ hi hj]
 exact h.2 j (by rw[h.1.len];exact hj) i (by rw[h.1.wd];exact hi)
theorem a4k {α:Type} {xs ys:List α} {i:Nat} {d:α} (hi:i<xs.length) (hy:i<ys.length) (h:xs.take i=ys.take i) (h2:xs.getD i d=ys.getD i d):xs.take (i+1)=ys.take (i+1):=by
 rw[Ci,Ci,h]
 rw[bf,bn hi,bf,bn hy] at h2
 rw[bn hi,bn hy]
 have h2:xs[i]=ys[i]:=h2
 rw[h2]
abbrev LKq:LK:=.mat 39 47 tQ
def a7Y (n:Nat):List Rat:=List.replicate n 0
def EL (R C:Nat):MQ:=tab R C fun _ _=>0
noncomputable def c6O:lM:=.mk LKq [tI,tI] (fun x=>0<=(show Int from x.1)/\(show Int from x.1)<=1000/\0<=(show Int from x.2.1)/\(show Int from x.2.1)<=1000) (fun x=>EL (show Int from x.1).toNat (show Int from x.2.1).toNat)
end Go.Proofs.YtbkocjmmbkifjaaGreat
