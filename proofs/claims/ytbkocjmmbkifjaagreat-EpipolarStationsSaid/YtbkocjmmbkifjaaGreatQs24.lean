/-
  Lemmas for the theorem vstations28_holds, part 24 of 34.
-/
import Derived.Test.YtbkocjmmbkifjaaGreatQs23
namespace Go.Proofs.YtbkocjmmbkifjaaGreat
open Go Go.RowKit
theorem Bq:type_of% @Rat.mul_inv_cancel:=@Rat.mul_inv_cancel
set_option maxRecDepth 100000
set_option maxHeartbeats 1000000
set_option linter.unusedVariables false
set_option linter.unusedSimpArgs false
instance c5o (n:Nat):OfNat (Ty.den tI) n:=inferInstanceAs (OfNat Int n)
abbrev LQ':Type:=List Rat
abbrev lv (l:LQ') (i:Nat):Rat:=l.getD i 0
theorem eY {R C:Nat} {f:Nat->Nat->Rat}:(tab R C f).length=R:=by simp[tab]
theorem gU {R C:Nat} {f:Nat->Nat->Rat} {i:Nat} (h:i<R):(tab R C f).getD i []=(List.range C).map (f i):=by
 simp[tab,iy,h]
theorem jQ {R C:Nat} {f:Nat->Nat->Rat} {i j:Nat} (h1:i<R) (h2:j<C):ent (tab R C f) i j=f i j:=by
 show ((tab R C f).getD i []).getD j 0=_
 rw[gU h1];simp[iy,h2]
theorem b2I {R C:Nat} {f:Nat->Nat->Rat}:∀ r ∈ tab R C f,r.length=C:=by
 intro r hr;obtain⟨i,_,rfl⟩:=uw.mp hr;simp
theorem qK {R C:Nat} {f:Nat->Nat->Rat} (r1:1<=R) (r2:R<=64) (c1:1<=C) (c2:C<=64):isM (tab R C f) R C:=⟨eY,b2I,r1,r2,c1,c2⟩
theorem isM.wd {a:MQ} {R C:Nat} (h:isM a R C):wdM a=C:=bU (p:=fun r:List Rat=>r.length=C) h.2.1 (by have:=h.1;have:=h.2.2.1;omega)
theorem isM.row {a:MQ} {R C:Nat} (h:isM a R C) {i:Nat} (hi:i<R):(a.getD i []).length=C:=bU (p:=fun r:List Rat=>r.length=C) h.2.1 (by have:=h.1;omega)
theorem eF {R C:Nat} {f g:Nat->Nat->Rat} (h:∀ i,i<R->∀ j,j<C->f i j=g i j):tab R C f=tab R C g:=by
 unfold tab
 refine qj fun i hi=>qj fun j hj=>h i (vw.mp hi) j (vw.mp hj)
theorem UH {a:List Rat} {C:Nat} (h:a.length=C):(List.range C).map (fun j=>a.getD j 0)=a:=by
 apply Dj
 ·simp[h]
 ·intro j h1 h2;simp[iy,h2]
theorem isM.tab {a:MQ} {R C:Nat} (h:isM a R C):Proofs.YtbkocjmmbkifjaaGreat.tab R C (ent a)=a:=by
 apply Dj
 ·rw[eY,h.1]
 ·intro i h1 h2
  have hi:i<R:=by rw[<-h.1];exact h2
  have e:(Proofs.YtbkocjmmbkifjaaGreat.tab R C (ent a))[i]=(Proofs.YtbkocjmmbkifjaaGreat.tab R C (ent a)).getD i []:=by rw[iy,jc h1];rfl
  rw[e,gU hi]
  have e2:a[i]=a.getD i []:=by rw[iy,jc h2];rfl
  rw[e2];exact UH (h.row hi)
theorem jK {R C:Nat} {f:Nat->Nat->Rat} {i:Nat} (h:i<R):(bG R C f).getD i []=(List.range C).map (fun c=>eU (f i c)):=by
 simp[bG,iy,h]
theorem map_set {α:Type} (g:Nat->α) (C c:Nat) (v:α):((List.range C).map g).set c v=(List.range C).map (fun d=>if d=c then v else g d):=by
 apply Dj
 ·simp
 ·intro i h1 h2
  rw[List.getElem_set]
  by_cases e:c=i
  ·subst e;simp
  ·rw[ji e];simp[show ¬ i=c by omega]
theorem a2V {R C:Nat} {f:Nat->Nat->Rat} (i:Nat) (g:Nat->Rat):(bG R C f).set i ((List.range C).map fun c=>eU (g c))=bG R C (fun k=>if k=i then g else f k):=by
 unfold bG;rw[map_set]
 refine qj fun k _=>?_
 by_cases e:k=i
 ·simp only[jm e]
 ·simp only[ji e]
theorem nG {R C:Nat} {f g:Nat->Nat->Rat} (h:∀ i,i<R->∀ j,j<C->f i j=g i j):bG R C f=bG R C g:=by
 unfold bG
 refine qj fun i hi=>qj fun j hj=>?_
 rw[h i (vw.mp hi) j (vw.mp hj)]
theorem fM {α:Type} {g:Nat->α} {C c:Nat} {d:α} (h:c<C):((List.range C).map g).getD c d=g c:=by
 simp[iy,h]
def szM (a:MQ) (K:Nat):Prop:=∀ i,i<a.length->∀ j,j<wdM a->rsz (ent a i j)<=K
def okM (a:MQ):Prop:=isM a a.length (wdM a)/\szM a 100000000
abbrev liftM (a:MQ):MR:=List.map (fun xs=>List.map (fun x=>eU x) xs) a
theorem a7y (a:MQ):(liftM a).length=a.length:=by simp
theorem a7z (a:MQ) (i:Nat):(liftM a).getD i []=(a.getD i []).map eU:=by
 simp[iy]
 cases a[i]?<;>rfl
theorem b0O (a:MQ):wdM (liftM a)=wdM a:=by show ((liftM a).getD 0 []).length=(a.getD 0 []).length;rw[a7z,ru]
theorem okM.ent {a:MQ} (h:okM a) {r:List Rat} (hr:r ∈ a) {x:Rat} (hx:x ∈ r):rsz x<=100000000:=by
 obtain⟨i,hi,rfl⟩:=Df hr
 obtain⟨j,hj,rfl⟩:=Df hx
 have h1:=h.1.2.1 _ (vk hi)
 have h2:=h.2 i hi j (by rw[<-h1];exact hj)
 have e:Proofs.YtbkocjmmbkifjaaGreat.ent a i j=a[i][j]:=by
  show (a.getD i []).getD j 0=_
  rw[show a.getD i []=a[i] by rw[iy,jc hi];rfl,iy,jc hj];rfl
 rwa [e] at h2
theorem a7O (x:Rat):(eU x).n<=rsz x/\(eU x).m<=rsz x:=⟨Nat.le_max_left _ _,Nat.le_max_right _ _⟩
theorem okM.short {a:MQ} (h:okM a):xZ (liftM a):=by
 refine⟨by have:=h.1.2.2.2.1;simp;omega,fun r hr=>?_⟩
 obtain⟨s,hs,rfl⟩:=uw.mp hr
 refine⟨by have:=h.1.2.1 s hs;have:=h.1.2.2.2.2.2;simp;omega,fun q hq=>?_⟩
 obtain⟨x,hx,rfl⟩:=uw.mp hq
 have h1:=h.ent hs hx
 have ⟨h2,h3⟩:=a7O x
 exact⟨by omega,by omega⟩
theorem okM.chk {a:MQ} (h:okM a):rU (liftM a)=0:=by
 obtain⟨⟨h1,h2,h3,h4,h5,h6⟩,_⟩:=h
 have hb:(liftM a).any (badR (wdM a))=false:=by
  refine List.any_eq_false.mpr fun r hr=>?_
  obtain⟨s,hs,rfl⟩:=uw.mp hr
  unfold badR
  have:(List.map (fun x=>eU x) s).any (fun q=>!q.ok)=false:=List.any_eq_false.mpr fun q hq=>by
   obtain⟨x,_,rfl⟩:=uw.mp hq;simp[eU]
  rw[this,ru,h2 s hs];simp
 unfold rU
 rw[a7y,b0O,hb,jm ⟨h3,h4,h5,h6,rfl⟩]
def xJ (m n:Int) (f:Nat->Nat->Rat) (P:Int->Int->Prop) (Fin:MR->Prop):Prop:=(m=m/\0<=m/\m<=1000000000/\True)/\(asT Int 0=0/\List.replicate m.toNat (aF aH)=List.replicate (Int.toNat m-0) (aF aH)/\True)/\∀ (i:{ k:Nat // k<=Int.toNat m }),asT Bool true=true/\ifB (decide (aB (aA i)<aB (aN none (List.replicate m.toNat (aF aH))))) ((n=n/\0<=n/\n<=1000000000/\0<=aB (aA i)/\aB (aA i)<aB (aN none (bG (aA i) n.toNat f++List.replicate (Int.toNat m-aA i) (aF aH)))/\Int.toNat (aB (aA i))<aN none (bG (aA i) n.toNat f++List.replicate (Int.toNat m-aA i) (aF aH))/\True)/\(0<=aB (aA i)/\aB (aA i)<aB (aN (some (List.set (bJ none (bG (aA i) n.toNat f++List.replicate (Int.toNat m-aA i) (aF aH))) (aB (aA i)).toNat (bG (aA i) n.toNat f++List.replicate (Int.toNat m-aA i) (aF aH)).length)) (bG (aA i) n.toNat f++List.replicate (Int.toNat m-aA i) (aF aH)++List.replicate n.toNat { ok:=false,x:=0,g:=aF Nat,h:=aF Nat }::aF (List aH)))/\Int.toNat (aB (aA i))<aN (some (List.set (bJ none (bG (aA i) n.toNat f++List.replicate (Int.toNat m-aA i) (aF aH))) (aB (aA i)).toNat (bG (aA i) n.toNat f++List.replicate (Int.toNat m-aA i) (aF aH)).length)) (bG (aA i) n.toNat f++List.replicate (Int.toNat m-aA i) (aF aH)++List.replicate n.toNat { ok:=false,x:=0,g:=aF Nat,h:=aF Nat }::aF (List aH))/\True)/\(asT Int 0=0/\List.Nodup (List.set (bJ none (bG (aA i) n.toNat f++List.replicate (Int.toNat m-aA i) (aF aH))) (aB (aA i)).toNat (bG (aA i) n.toNat f++List.replicate (Int.toNat m-aA i) (aF aH)).length)/\List.map (fun(i_1:Nat)=>List.getD (bG (aA i) n.toNat f++List.replicate (Int.toNat m-aA i) (aF aH)++List.replicate n.toNat { ok:=false,x:=0,g:=aF Nat,h:=aF Nat }::aF (List aH)) i_1 (aF aH)) (List.set (bJ none (bG (aA i) n.toNat f++List.replicate (Int.toNat m-aA i) (aF aH))) (aB (aA i)).toNat (bG (aA i) n.toNat f++List.replicate (Int.toNat m-aA i) (aF aH)).length)=bG (aA i) n.toNat f++(List.map (fun(j:Nat)=>eU (f (aA i) j)) (List.range 0)++List.replicate (Int.toNat n-0) bF)::aF (List aH)++List.replicate (Int.toNat m-aA i-1) (aF aH)/\True)/\∀ (i_1:{ q:Nat // q<=Int.toNat n }),asT Bool true=true/\ifB (decide (aB (aA i_1)<aB (rowAt (bG (aA i) n.toNat f++List.replicate (Int.toNat m-aA i) (aF aH)++List.replicate n.toNat { ok:=false,x:=0,g:=aF Nat,h:=aF Nat }::aF (List aH)) (nameAt (some (List.set (bJ none (bG (aA i) n.toNat f++List.replicate (Int.toNat m-aA i) (aF aH))) (aB (aA i)).toNat (bG (aA i) n.toNat f++List.replicate (Int.toNat m-aA i) (aF aH)).length)) (aB (aA i)).toNat)).length)) ((0<=aB (aA i)/\aB (aA i)<aB (aN none (bG (aA i) n.toNat f++(List.map (fun(j:Nat)=>eU (f (aA i) j)) (List.range (aA i_1))++List.replicate (Int.toNat n-aA i_1) bF)::aF (List aH)++List.replicate (Int.toNat m-aA i-1) (aF aH)))/\Int.toNat (aB (aA i))<aN none (bG (aA i) n.toNat f++(List.map (fun(j:Nat)=>eU (f (aA i) j)) (List.range (aA i_1))++List.replicate (Int.toNat n-aA i_1) bF)::aF (List aH)++List.replicate (Int.toNat m-aA i-1) (aF aH))/\P (aB (aA i)) (aB (aA i_1))/\0<=aB (aA i_1)/\aB (aA i_1)<aB (rowAt (bG (aA i) n.toNat f++(List.map (fun(j:Nat)=>eU (f (aA i) j)) (List.range (aA i_1))++List.replicate (Int.toNat n-aA i_1) bF)::aF (List aH)++List.replicate (Int.toNat m-aA i-1) (aF aH)) (nameAt none (aB (aA i)).toNat)).length/\Int.toNat (aB (aA i_1))<List.length (rowAt (bG (aA i) n.toNat f++(List.map (fun(j:Nat)=>eU (f (aA i) j)) (List.range (aA i_1))++List.replicate (Int.toNat n-aA i_1) bF)::aF (List aH)++List.replicate (Int.toNat m-aA i-1) (aF aH)) (nameAt none (aB (aA i)).toNat))/\True)/\∃ (i':{ q:Nat // q<=Int.toNat n }),Int.toNat n-aA i'<Int.toNat n-aA i_1/\IntKind.wrap IntKind.i64 (aB (aA i_1)+1)=aB (aA i')/\List.set (bG (aA i) n.toNat f++(List.map (fun(j:Nat)=>eU (f (aA i) j)) (List.range (aA i_1))++List.replicate (Int.toNat n-aA i_1) bF)::aF (List aH)++List.replicate (Int.toNat m-aA i-1) (aF aH)) (nameAt none (aB (aA i)).toNat) (List.set (rowAt (bG (aA i) n.toNat f++(List.map (fun(j:Nat)=>eU (f (aA i) j)) (List.range (aA i_1))++List.replicate (Int.toNat n-aA i_1) bF)::aF (List aH)++List.replicate (Int.toNat m-aA i-1) (aF aH)) (nameAt none (aB (aA i)).toNat)) (aB (aA i_1)).toNat (eU (f (aB (aA i)).toNat (aB (aA i_1)).toNat)))=bG (aA i) n.toNat f++(List.map (fun(j:Nat)=>eU (f (aA i) j)) (List.range (aA i'))++List.replicate (Int.toNat n-aA i') bF)::aF (List aH)++List.replicate (Int.toNat m-aA i-1) (aF aH)/\True) (∃ (i':{ k:Nat // k<=Int.toNat m }),Int.toNat m-aA i'<Int.toNat m-aA i/\IntKind.wrap IntKind.i64 (aB (aA i)+1)=aB (aA i')/\bG (aA i) n.toNat f++(List.map (fun(j:Nat)=>eU (f (aA i) j)) (List.range (aA i_1))++List.replicate (Int.toNat n-aA i_1) bF)::aF (List aH)++List.replicate (Int.toNat m-aA i-1) (aF aH)=bG (aA i') n.toNat f++List.replicate (Int.toNat m-aA i') (aF aH)/\True)) (Fin (bG (aA i) n.toNat f++List.replicate (Int.toNat m-aA i) (aF aH)))
theorem qA {R C:Nat} {f:Nat->Nat->Rat} {P:Int->Int->Prop} {Fin:MR->Prop} (r2:R<=1000) (c2:C<=1000) (hP:∀ i j:Nat,i<R->j<C->P i j) (hF:Fin (bG R C f)):xJ R C f P Fin:=by
 unfold xJ
 have hZ:(⟨false,0,[],[]⟩:aH)=bF:=rfl
 dsimp only[aB,asT,aA,aF] at *
 simp only[hZ,Int.toNat_natCast,aC,aj,ah,jh,jg]
 have hX:∀ k,k<=R->(bG k C f++List.replicate (R-k) ([]:List aH)).length=R:=fun k hk=>by rw[jl,eX,Bh];omega
 have hY:∀ k (Z:List aH),k<R->(bG k C f++[Z]++List.replicate (R-k-1) ([]:List aH)).length=R:=fun k Z hk=>by rw[jl,jl,eX,Bh];simp;omega
 refine⟨by omega,by rw[Nat.sub_zero],fun i=>⟨fun h1=>?_,fun h1=>?_⟩⟩
 ·have hi:i.1<R:=by simpa [aN] using h1
  simp only[aN,nameAt,bJ,hX i.1 i.2,hY i.1 _ hi,gy,bf]
  have e1:((List.range R).set i.1 R).getD i.1 0=R:=by simp[iy,hi]
  have e2:rowAt (bG i.1 C f++List.replicate (R-i.1) []++[List.replicate C bF]) R=List.replicate C bF:=by
   have:=a5F (T:=[]) (hX i.1 i.2) (List.replicate C bF);rwa [Ba] at this
  have e3:=b0Y (bG i.1 C f++List.replicate (R-i.1) []) (List.replicate C bF) (k:=i.1) (by rw[hX i.1 i.2];exact hi)
  rw[hX i.1 i.2,b0Z (eX _ _ _) hi] at e3
  rw[e1,e2,e3,Bh]
  refine⟨⟨by omega,by omega,by omega,by omega,hi⟩,⟨by omega,by omega,hi⟩,⟨b4e R i.1,by simp⟩,fun q=>⟨fun h2=>?_,fun h2=>?_⟩⟩
  ·have hq:q.1<C:=by omega
   have hl:(List.map (fun j=>eU (f i.1 j)) (List.range q.1)++List.replicate (C-q.1) bF).length=C:=by simp;omega
   rw[a5F (eX _ _ _),hl]
   refine⟨⟨by omega,by omega,hi,hP _ _ hi hq,by omega,by omega,hq⟩,⟨q.1+1,by omega⟩,by simp only;omega,by rw[aP (by omega) (by omega)];rfl,?_⟩
   rw[b1b (eX _ _ _),b1a (fun j=>eU (f i.1 j)) bF hq]
  ·have hq:q.1=C:=by have:=q.2;omega
   refine⟨⟨i.1+1,by omega⟩,by simp only;omega,by rw[aP (by omega) (by omega)];rfl,?_⟩
   rw[hq,Nat.sub_self,List.replicate_zero,Ba,a8h,Nat.sub_sub]
 ·have hi:i.1=R:=by have:=i.2;simp only[aN,Bh] at h1;omega
  rw[hi,Nat.sub_self,List.replicate_zero,Ba]
  exact hF
def xI (m n:Int) (f:Nat->Nat->Rat):List Ann:=[.inv {k:Nat // k<=m.toNat} (fun k=>[(14,.val tI (k.1:Int))]) (fun k=>[(11,.mat 39 47 tR none (bG k.1 n.toNat f++List.replicate (m.toNat-k.1) []) 0)]) (fun k=>m.toNat-k.1) ⟨0,by omega⟩ (fun k=>[
 .inv {q:Nat // q<=n.toNat} (fun q=>[(27,.val tI (q.1:Int)),(20,.any),(21,.any),(24,.any),(25,.any)]) (fun q=>[(11,.mat 39 47 tR none (bG k.1 n.toNat f++[(List.range q.1).map (fun j=>eU (f k.1 j))++List.replicate (n.toNat-q.1) bF]++List.replicate (m.toNat-k.1-1) []) 0)]) (fun q=>n.toNat-q.1) ⟨0,by omega⟩ (fun _=>[])])]
abbrev LKm:LK:=.mat 39 47 tR
noncomputable def a3s (T:List Ty) (ok:(nest T).den->Int->Int->Prop) (g:(nest T).den->Nat->Nat->Rat):Ctr:=⟨tI::tI::T,[tQ],fun x=>ok x.2.2 x.1 x.2.1,fun x=>(g x.2.2 (show Int from x.1).toNat (show Int from x.2.1).toNat,())⟩
def TB (T:List Ty) (ok:(nest T).den->Int->Int->Prop) (x:(nest [tI,tI,nest T]).den):Prop:=∃ R C:Nat,(show Int from x.1)=R/\(show Int from x.2.1)=C/\R<=1000/\C<=1000/\∀ i j:Nat,i<R->j<C->ok x.2.2.1 i j
noncomputable def TN (F:FuncId) (T:List Ty) (ok:(nest T).den->Int->Int->Prop) (g:(nest T).den->Nat->Nat->Rat):jZ:=.mk (dec:=fun x=>⟨Classical.propDecidable _⟩) LKm [tI,tI,.clo F (nest T)] (fun x=>TB T ok x) (fun x=>bG (show Int from x.1).toNat (show Int from x.2.1).toNat (g x.2.2.1))
def sm:Nat->(Nat->Rat)->Rat
 | 0,_=>0
 | n+1,f=>sm n f+f n
theorem dQ {f g:Nat->Rat}:∀ n,(∀ i,i<n->f i=g i)->sm n f=sm n g
 | 0,_=>rfl
 | n+1,h=>by show sm n f+f n=sm n g+g n;rw[dQ n (fun i hi=>h i (by omega)),h n (by omega)]
theorem mQ {f:Nat->Rat}:∀ n,(∀ i,i<n->f i=0)->sm n f=0
 | 0,_=>rfl
 | n+1,h=>by show sm n f+f n=0;rw[mQ n (fun i hi=>h i (by omega)),h n (by omega)];grind
theorem MH (f g:Nat->Rat):∀ n,sm n (fun i=>f i+g i)=sm n f+sm n g
 | 0=>by show (0:Rat)=0+0;grind
 | n+1=>by show sm n _+(f n+g n)=(sm n f+f n)+(sm n g+g n);rw[MH f g n];grind
theorem uI (k:Rat) (f:Nat->Rat):∀ n,sm n (fun i=>k*f i)=k*sm n f
 | 0=>by show (0:Rat)=k*0;grind
 | n+1=>by show sm n _+k*f n=k*(sm n f+f n);rw[uI k f n];grind
theorem a1c (k:Rat) (f:Nat->Rat) (n:Nat):sm n (fun i=>f i*k)=sm n f*k:=by
 rw[show (fun i=>f i*k)=(fun i=>k*f i) from funext fun i=>by grind,uI];grind
theorem b2p (f g:Nat->Rat) (n:Nat):sm n (fun i=>f i-g i)=sm n f-sm n g:=by
 rw[show (fun i=>f i-g i)=(fun i=>f i+(-1)*g i) from funext fun i=>by grind,MH f (fun i=>(-1)*g i),uI];grind
theorem a1d (f:Nat->Nat->Rat) (m:Nat):∀ n,sm n (fun i=>sm m (fun j=>f i j))=sm m (fun j=>sm n (fun i=>f i j))
 | 0=>(mQ m (fun j _=>rfl)).symm
 | n+1=>by
  show sm n (fun i=>sm m (fun j=>f i j))+sm m (fun j=>f n j)=sm m (fun j=>sm n (fun i=>f i j)+f n j)
  rw[a1d f m n,MH]
theorem MI {f:Nat->Rat} (k:Nat):∀ n,k<n->(∀ i,i<n->i≠k->f i=0)->sm n f=f k
 | 0,h,_=>by omega
 | n+1,h,hz=>by
  show sm n f+f n=f k
  by_cases e:k=n
  ·rw[mQ n (fun i hi=>hz i (by omega) (by omega)),e];grind
  ·rw[MI k n (by omega) (fun i hi hk=>hz i (by omega) hk),hz n (by omega) (by omega)];grind
theorem MC {x:Rat} (h:x≠0):x / x=1:=by rw[Rat.div_def,Bq x h]
theorem b2n (f:Nat->Rat) (m:Nat):∀ n,sm (m+n) f=sm m f+sm n (fun i=>f (m+i))
 | 0=>by show sm m f=sm m f+0;grind
 | n+1=>by show sm (m+n) f+f (m+n)=sm m f+(sm n (fun i=>f (m+i))+f (m+n));rw[b2n f m n];grind
abbrev Mt:=Nat->Nat->Rat
def mm (n:Nat) (a b:Mt):Mt:=fun i j=>sm n fun k=>a i k*b k j
def mv (n:Nat) (a:Mt) (x:Nat->Rat):Nat->Rat:=fun i=>sm n fun k=>a i k*x k
def tr (a:Mt):Mt:=fun i j=>a j i
def idm:Mt:=fun i j=>if i=j then 1 else 0
def fk (e:Mt) (j:Nat):Nat->Nat->Nat
 | r,0=>r
 | r,n+1=>if e r j=0 then fk e j (r+1) n else r
theorem XB (e:Mt) (j:Nat):∀ n r,r<=fk e j r n/\fk e j r n<=r+n
 | 0,r=>⟨ay _,ay _⟩
 | n+1,r=>by
  have:=XB e j n (r+1)
  unfold fk;split<;>omega
theorem OH (e:Mt) (j:Nat):∀ n r i,r<=i->i<fk e j r n->e i j=0
 | 0,r,i,h1,h2=>by unfold fk at h2;omega
 | n+1,r,i,h1,h2=>by
  unfold fk at h2;split at h2
  ·rename_i h0
   by_cases h:i=r
   ·rw[h];exact h0
   ·exact OH e j n (r+1) i (by omega) h2
  ·omega
theorem a1P (e:Mt) (j:Nat):∀ n r,fk e j r n<r+n->e (fk e j r n) j≠0
 | 0,r,h=>by unfold fk at h;omega
 | n+1,r,h=>by
  unfold fk at h ⊢;split at h
  ·rename_i h0;rw[jm h0];exact a1P e j n (r+1) (by omega)
  ·rename_i h0;rw[ji h0];exact h0
theorem a1O (e:Mt) (j r n k:Nat) (h1:r<=k) (h2:k<=r+n) (hz:∀ i,r<=i->i<k->e i j=0) (hn:k<r+n->e k j≠0):fk e j r n=k:=by
 have ⟨a1,a2⟩:=XB e j n r
 rcases Nat.lt_trichotomy (fk e j r n) k with h|h|h
 ·exact absurd (hz _ a1 h) (a1P e j n r (by omega))
 ·exact h
 ·exact absurd (OH e j n r k h1 h) (hn (by omega))
theorem a9J {e f:Mt} {j:Nat} (n r:Nat) (h:∀ i,r<=i->i<r+n->e i j=f i j):fk e j r n=fk f j r n:=by
 have ⟨a1,a2⟩:=XB f j n r
 refine a1O e j r n _ a1 a2 (fun i h1 h2=>?_) (fun h1=>?_)
 ·rw[h i h1 (by omega)];exact OH f j n r i h1 h2
 ·rw[h _ a1 h1];exact a1P f j n r h1
def gB (e:Mt) (r k:Nat):Mt:=fun i=>if i=r then e k else if i=k then e r else e i
def jC (e:Mt) (r k j:Nat):Mt:=fun i c=>if i=r then e k c / e k j else gB e r k i c-gB e r k i j*(e k c / e k j)
def red (R:Nat) (e:Mt):Nat->Mt × List Nat
 | 0=>(e,[])
 | n+1 =>
  if fk (red R e n).1 n (red R e n).2.length (R-(red R e n).2.length)=R then red R e n
  else (jC (red R e n).1 (red R e n).2.length (fk (red R e n).1 n (red R e n).2.length (R-(red R e n).2.length)) n,(red R e n).2++[n])
structure Ech (R:Nat) (e:Mt) (n:Nat) (m:Mt) (p:List Nat):Prop where
 le:p.length<=R
 lt:∀ j ∈ p,j<n
 nd:p.Nodup
 unit:∀ t (h:t<p.length) i,i<R->m i p[t]=if i=t then 1 else 0
 rest:∀ i,p.length<=i->i<R->∀ c,c<n->m i c=0
 sol:∀ C (x:Nat->Rat),(∀ i,i<R->mv C e x i=0)↔(∀ i,i<R->mv C m x i=0)
theorem a1e (m:Mt) (r k j C:Nat) (x:Nat->Rat) (i:Nat):mv C (jC m r k j) x i=if i=r then mv C m x k / m k j else mv C (gB m r k) x i-gB m r k i j*(mv C m x k / m k j):=by
 unfold mv jC
 by_cases h:i=r
 ·simp only[jm h]
  rw[show (fun c=>m k c / m k j*x c)=(fun c=>m k c*x c*(m k j)⁻¹) from funext fun c=>by rw[Rat.div_def];grind,a1c,Rat.div_def]
 ·simp only[ji h]
  rw[show (fun c=>(gB m r k i c-gB m r k i j*(m k c / m k j))*x c)=(fun c=>gB m r k i c*x c-(gB m r k i j*(m k j)⁻¹)*(m k c*x c)) from funext fun c=>by rw[Rat.div_def];grind,b2p (fun c=>gB m r k i c*x c) (fun c=>(gB m r k i j*(m k j)⁻¹)*(m k c*x c)),uI,Rat.div_def];grind
theorem b2v (m:Mt) (R r k j C:Nat) (x:Nat->Rat) (hr:r<R) (hk:k<R) (hz:m k j≠0):(∀ i,i<R->mv C m x i=0)↔(∀ i,i<R->mv C (jC m r k j) x i=0):=by
 have hsw:∀ i,mv C (gB m r k) x i=if i=r then mv C m x k else if i=k then mv C m x r else mv C m x i:=fun i=>by
  unfold mv gB;by_cases h1:i=r
  ·simp only[jm h1]
  ·by_cases h2:i=k
   ·simp only[ji h1,jm h2]
   ·simp only[ji h1,ji h2]
 constructor
 ·intro h i hi
  rw[a1e,hsw,h k hk]
  split
  ·rw[Rat.div_def];grind
  ·have:=h i hi;have:=h r hr;rw[Rat.div_def];split<;>grind
 ·intro h
  have h1:=h r hr
  rw[a1e,jm rfl,Rat.div_def] at h1
  have hkz:mv C m x k=0:=by
   have:mv C m x k=mv C m x k*(m k j)⁻¹*m k j:=by rw[Rat.mul_assoc,Rat.inv_mul_cancel _ hz];grind
   rw[this,h1];grind
  have hA:∀ i,i<R->i≠r->(if i=k then mv C m x r else mv C m x i)=0:=fun i hi hir=>by
   have:=h i hi
   rw[a1e,ji hir,hsw,ji hir,hkz,Rat.div_def] at this
   grind
  intro i hi
  by_cases e1:i=k
  ·rw[e1];exact hkz
  ·by_cases e2:i=r
   ·have:=hA k hk (by omega)
    rw[jm rfl] at this;rw[e2];exact this
   ·have:=hA i hi e2
    rw[ji e1] at this;exact this
theorem iV (R:Nat) (e:Mt):∀ n,Ech R e n (red R e n).1 (red R e n).2
 | 0=>⟨uq _,fun j h=>(nomatch h),List.nodup_nil,fun t h=>absurd h (Nat.not_lt_zero _),fun i _ _ c h=>absurd h (Nat.not_lt_zero _),fun _ _=>Iff.rfl⟩
 | n+1=>by
  have ih:=iV R e n
  rw[show red R e (n+1)=(if fk (red R e n).1 n (red R e n).2.length (R-(red R e n).2.length)=R then ((red R e n).1,(red R e n).2) else (jC (red R e n).1 (red R e n).2.length (fk (red R e n).1 n (red R e n).2.length (R-(red R e n).2.length)) n,(red R e n).2++[n])) from rfl]
  generalize (red R e n).1=m at *
  generalize (red R e n).2=p at *
  generalize hk:fk m n p.length (R-p.length)=k
  have ⟨k1,k2⟩:=XB m n (R-p.length) p.length
  have k3:=OH m n (R-p.length) p.length
  have k4:=a1P m n (R-p.length) p.length
  rw[hk] at k1 k2 k3 k4
  have hle:=ih.le
  by_cases hR:k=R
  ·rw[jm hR]
   exact⟨ih.le,fun j hj=>Nat.lt_succ_of_lt (ih.lt j hj),ih.nd,ih.unit,fun i h1 h2 c hc=>by
    by_cases e1:c=n
    ·rw[e1];exact k3 i h1 (by omega)
    ·exact ih.rest i h1 h2 c (by omega),ih.sol⟩
  ·rw[ji hR]
   have hz:m k n≠0:=k4 (by omega)
   refine⟨by simp;omega,fun j hj=>?_,?_,fun t ht i hi=>?_,fun i h1 h2 c hc=>?_,fun C x=>?_⟩
   ·rcases um.mp hj with h|h
    ·exact Nat.lt_succ_of_lt (ih.lt j h)
    ·rw[tq.mp h];omega
   ·refine List.nodup_append.mpr ⟨ih.nd,by simp,fun a ha b hb=>?_⟩
    have:=ih.lt a ha;rw[tq.mp hb];omega
   ·have ht:t<p.length+1:=by simpa using ht
    show jC m p.length k n i (p++[n])[t]=_
    by_cases e1:t=p.length
    ·have hc:(p++[n])[t]=n:=by simp[e1]
     rw[hc,e1];unfold jC
     by_cases e2:i=p.length
     ·rw[jm e2,jm e2];exact MC hz
     ·rw[ji e2,ji e2,MC hz];grind
    ·have hl:t<p.length:=by omega
     have hc:(p++[n])[t]=p[t]:=by rw[List.getElem_append_left hl]
     have hkt:=ih.unit t hl k (by omega)
     rw[ji (show ¬ k=t by omega)] at hkt
     rw[hc];unfold jC gB
     rw[hkt]
     by_cases e2:i=p.length
     ·rw[jm e2,ji (by omega),Rat.div_def];grind
     ·simp only[ji e2]
      by_cases e3:i=k
      ·simp only[jm e3]
       rw[ih.unit t hl p.length (by omega),ji (by omega),ji (by omega),Rat.div_def];grind
      ·simp only[ji e3]
       rw[ih.unit t hl i hi,Rat.div_def];grind
   ·have h1:p.length+1<=i:=by simpa using h1
    show jC m p.length k n i c=0
    have hsz:∀ c,c<n->gB m p.length k i c=0:=fun c hc=>by
     unfold gB;rw[ji (by omega)]
     split
     ·exact ih.rest p.length (ay _) (by omega) c hc
     ·exact ih.rest i (by omega) h2 c hc
    unfold jC;rw[ji (by omega)]
    by_cases e1:c=n
    ·rw[e1,MC hz];grind
    ·rw[hsz c (by omega),ih.rest k k1 (by omega) c (by omega),Rat.div_def];grind
   ·rw[ih.sol C x];exact b2v m R p.length k n C x (by omega) (by omega) hz
section
theorem LD {p:List Nat} (h:p.Nodup) {t:Nat} (ht:t<p.length):p.idxOf p[t]=t:=by
 have h1:p.idxOf p[t]<p.length:=List.idxOf_lt_length_iff.mpr (vk ht)
 have h2:p[p.idxOf p[t]]=p[t]:=List.getElem_idxOf h1
 exact(List.getElem_inj h).mp h2
theorem a0G {p:List Nat} {c:Nat} (h:c ∈ p):p.idxOf c<p.length/\p.getD (p.idxOf c) 0=c:=by
 have h1:p.idxOf c<p.length:=List.idxOf_lt_length_iff.mpr h
 refine⟨h1,?_⟩
 rw[iy,jc h1];exact List.getElem_idxOf h1
theorem b2o {n:Nat}:∀ (p:List Nat),p.Nodup->(∀ j ∈ p,j<n)->sm n (fun c=>if c ∈ p then 1 else 0)=(p.length:Nat)
 | [],_,_=>mQ n (fun c _=>rfl)
 | a::p,hd,hl=>by
  have h1:=b2o p (List.nodup_cons.mp hd).2 (fun j hj=>hl j (ku _ hj))
  have h2:sm n (fun c=>if c=a then (1:Rat) else 0)=1:=by
   rw[MI a n (hl a (mg ..)) (fun i _ hi=>ji hi),jm rfl]
  have h3:=(List.nodup_cons.mp hd).1
  rw[show (fun c=>if c ∈ a::p then (1:Rat) else 0)=(fun c=>(if c=a then (1:Rat) else 0)+(if c ∈ p then 1 else 0)) from funext fun c=>by
   by_cases e:c=a
   ·subst e;rw[jm (mg ..),jm rfl,ji h3];grind
   ·by_cases e2:c ∈ p
    ·rw[jm (ku _ e2),ji e,jm e2];grind
    ·rw[ji (by simp[e,e2]),ji e,ji e2];grind,MH,h1,h2,List.length_cons]
  grind
theorem a6x:∀ n,sm n (fun _=>1)=(n:Nat)
 | 0=>rfl
 | n+1=>by show sm n (fun _=>1)+1=_;rw[a6x n];grind
def frees (n:Nat) (p:List Nat):List Nat:=(List.range n).filter (fun c=>decide (c ∉ p))
theorem a6w (p:List Nat):∀ n,sm n (fun c=>if c ∈ p then 0 else 1)=((frees n p).length:Nat)
 | 0=>rfl
 | n+1=>by
  show sm n (fun c=>if c ∈ p then 0 else 1)+(if n ∈ p then 0 else 1)=_
  rw[a6w p n]
  unfold frees
  rw[Bj,List.filter_append,jl]
  by_cases h:n ∈ p
  ·simp[h];grind
  ·simp[h]
theorem KW {n:Nat} {p:List Nat} (hd:p.Nodup) (hl:∀ j ∈ p,j<n):(frees n p).length+p.length=n:=by
 have h1:=b2o p hd hl
 have h2:=a6w p n
 have h3:=a6x n
 have h4:=MH (fun c=>if c ∈ p then (1:Rat) else 0) (fun c=>if c ∈ p then (0:Rat) else 1) n
 rw[show (fun c=>(if c ∈ p then (1:Rat) else 0)+(if c ∈ p then (0:Rat) else 1))=(fun _=>1) from funext fun c=>by split<;>grind,h1,h2,h3] at h4
 have h5:((n:Nat):Rat)=((p.length+(frees n p).length:Nat):Rat):=by rw[h4];push_cast;rfl
 have:=Rat.natCast_inj.mp h5
 omega
theorem KX {n:Nat} {p:List Nat} {c:Nat}:c ∈ frees n p↔c<n/\c ∉ p:=by unfold frees;simp
section
variable {R n:Nat} {e m:Mt} {p:List Nat}
theorem Ech.row (E:Ech R e n m p) {t:Nat} (ht:t<p.length) (x:Nat->Rat):mv n m x t=x p[t]+sm n (fun c=>if c ∈ p then 0 else m t c*x c):=by
 have hl:=E.le
 have h1:sm n (fun c=>if c ∈ p then m t c*x c else 0)=x p[t]:=by
  rw[MI p[t] n (E.lt _ (vk ht)) (fun c _ hc=>?_),jm (vk ht),E.unit t ht t (by omega),jm rfl]
  ·grind
  ·by_cases h:c ∈ p
   ·rw[jm h]
    have ⟨a1,a2⟩:=a0G h
    have a3:p[p.idxOf c]=c:=List.getElem_idxOf a1
    have:=E.unit (p.idxOf c) a1 t (by omega)
    rw[a3,ji (fun h=>hc (by rw[<-a3];congr 1;exact h.symm))] at this
    rw[this];grind
   ·rw[ji h]
 rw[<-h1,<-MH]
 exact dQ n fun c _=>by split<;>grind
theorem Ech.low (E:Ech R e n m p) {i:Nat} (h1:p.length<=i) (h2:i<R) (x:Nat->Rat):mv n m x i=0 :=
 mQ n fun c hc=>by rw[E.rest i h1 h2 c hc];grind
def TR (m:Mt) (p:List Nat) (j:Nat):Nat->Rat:=fun c=>if c=j then 1 else if c ∈ p then-m (p.idxOf c) j else 0
theorem LV (m:Mt) (p:List Nat) (j:Nat):TR m p j j=1:=jm rfl
theorem a7E {m:Mt} {p:List Nat} {j c:Nat} (h:c ∉ p):TR m p j c=if c=j then 1 else 0:=by
 unfold TR;rw[ji h]
theorem b1k (E:Ech R e n m p) {j t:Nat} (ht:t<p.length) (hj:j ∉ p):TR m p j p[t]=- m t j:=by
 unfold TR
 rw[ji (fun h=>hj (by rw[<-h];exact vk ht)),jm (vk ht),LD E.nd ht]
theorem Ech.null (E:Ech R e n m p) {j:Nat} (hn:j<n) (hj:j ∉ p):∀ i,i<R->mv n e (TR m p j) i=0:=by
 refine(E.sol n _).mpr fun i hi=>?_
 by_cases h:i<p.length
 ·rw[E.row h,b1k E h hj,MI j n hn (fun c _ hc=>?_),ji hj,LV]
  ·grind
  ·split
   ·rfl
   ·rename_i h;rw[a7E h,ji hc];grind
 ·exact E.low (by omega) hi _
theorem Ech.span (E:Ech R e n m p) {x:Nat->Rat} (hx:∀ i,i<R->mv n e x i=0) (hf:∀ c,c<n->c ∉ p->x c=0):∀ c,c<n->x c=0:=by
 intro c hc
 by_cases h:c ∈ p
 ·have ⟨a1,a2⟩:=a0G h
  have a3:p[p.idxOf c]=c:=List.getElem_idxOf a1
  have h1:=(E.sol n x).mp hx (p.idxOf c) (qg a1 E.le)
  rw[E.row a1,a3,mQ n (fun c hc=>?_)] at h1
  ·grind
  ·split
   ·rfl
   ·rename_i h;rw[hf c hc h];grind
 ·exact hf c hc h
theorem Ech.full (E:Ech R e n m p) (h:p.length=n) {c:Nat} (hc:c<n):c ∈ p:=by
 have h1:=KW E.nd E.lt
 by_cases hm:c ∈ p
 ·exact hm
 ·have:=List.length_pos_of_mem (KX.mpr ⟨hc,hm⟩);omega
theorem Ech.inj (E:Ech R e n m p):p.length=n↔∀ x,(∀ i,i<R->mv n e x i=0)->∀ c,c<n->x c=0:=by
 constructor
 ·intro h x hx
  exact E.span hx (fun c hc hn=>absurd (E.full h hc) hn)
 ·intro h
  have h1:=KW E.nd E.lt
  rcases Am (frees n p).length with h0|h0
  ·omega
  ·have ⟨h2,h3⟩:=KX.mp (vk h0)
   have:=h _ (E.null h2 h3) _ h2
   rw[LV] at this;exact absurd this (by decide)
theorem Ech.col (E:Ech R e n m p) {q:Nat} (hq:n<=q) (x:Nat->Rat):(∀ i,i<R->mv n e x i=e i q)↔(∀ i,i<R->mv n m x i=m i q):=by
 have key:∀ (a:Mt) i,mv (q+1) a (fun c=>if c<n then x c else if c=q then -1 else 0) i=mv n a x i-a i q:=fun a i=>by
  unfold mv
  show sm q _+_=_
  obtain⟨d,rfl⟩:∃ d,q=n+d:=⟨q-n,by omega⟩
  rw[b2n,mQ d (fun c hc=>?_),dQ n (g:=fun k=>a i k*x k) (fun c hc=>by simp only[jm hc])]
  ·simp only[ji (show ¬ n+d<n by omega)];simp only[Dl];grind
  ·simp only[ji (show ¬ n+c<n by omega),ji (show ¬ n+c=n+d by omega)];grind
 have h:=E.sol (q+1) (fun c=>if c<n then x c else if c=q then -1 else 0)
 simp only[key] at h
 constructor
 ·intro h1 i hi;have:=h.mp (fun i hi=>by rw[h1 i hi];grind) i hi;grind
 ·intro h1 i hi;have:=h.mpr (fun i hi=>by rw[h1 i hi];grind) i hi;grind
def xs (m:Mt) (p:List Nat) (q:Nat):Nat->Rat:=fun c=>if c ∈ p then m (p.idxOf c) q else 0
theorem Ech.solve (E:Ech R e n m p) {q:Nat} (hq:n<=q) (h0:∀ i,p.length<=i->i<R->m i q=0):∀ i,i<R->mv n e (xs m p q) i=e i q:=by
 refine(E.col hq _).mpr fun i hi=>?_
 by_cases h:i<p.length
 ·rw[E.row h,mQ n (fun c _=>?_)]
  ·unfold xs;rw[jm (vk h),LD E.nd h];grind
  ·split
   ·rfl
   ·rename_i h;unfold xs;rw[ji h];grind
 ·rw[E.low (by omega) hi,h0 i (by omega) hi]
end
theorem PI (R:Nat) (e:Mt):∀ n,(red R e n).2.length<=n/\((red R e n).2.length=n->(red R e n).2=List.range n)
 | 0=>⟨ay _,fun _=>rfl⟩
 | n+1=>by
  have ⟨h1,h2⟩:=PI R e n
  unfold red
  split
  ·exact⟨by omega,fun h=>by omega⟩
  ·refine⟨by simp;omega,fun h=>?_⟩
   simp at h
   show _++_=_
   rw[Bj,h2 h]
theorem UD (R:Nat) (e:Mt) (n:Nat):red R e (n+1)=if fk (red R e n).1 n (red R e n).2.length (R-(red R e n).2.length)=R then red R e n
 else (jC (red R e n).1 (red R e n).2.length (fk (red R e n).1 n (red R e n).2.length (R-(red R e n).2.length)) n,(red R e n).2++[n]):=rfl
theorem JH {R:Nat} {e:Mt} {n:Nat} (h:(red R e n).2.length=R):∀ k,red R e (n+k)=red R e n
 | 0=>rfl
 | k+1=>by
  have ih:=JH h k
  show red R e (n+k+1)=_
  rw[UD,ih,jm (by rw[h];simp[fk])]
theorem a6k (R:Nat) (e:Mt) (n:Nat):∀ k,∃ l,(red R e (n+k)).2=(red R e n).2++l/\∀ j ∈ l,n<=j
 | 0=>⟨[],by simp,by simp⟩
 | k+1=>by
  have ⟨l,h1,h2⟩:=a6k R e n k
  show ∃ l,(red R e (n+k+1)).2=_/\_
  rw[UD]
  split
  ·exact⟨l,h1,h2⟩
  ·refine⟨l++[n+k],by show _++_=_;rw[h1,wz],fun j hj=>?_⟩
   rcases um.mp hj with h|h
   ·exact h2 j h
   ·rw[tq.mp h];omega
theorem wL {R:Nat} {e f:Mt} {C:Nat} (h:∀ i,i<R->∀ c,c<C->e i c=f i c):∀ n,n<=C->(red R e n).2=(red R f n).2/\∀ i,i<R->∀ c,c<C->(red R e n).1 i c=(red R f n).1 i c
 | 0,_=>⟨rfl,h⟩
 | n+1,hn=>by
  have ⟨h1,h2⟩:=wL h n (by omega)
  have hl:=(iV R e n).le
  have hk:fk (red R e n).1 n (red R e n).2.length (R-(red R e n).2.length)=fk (red R f n).1 n (red R f n).2.length (R-(red R f n).2.length):=by
   rw[h1];exact a9J _ _ (fun i _ hi=>h2 i (by rw[<-h1] at hi;omega) n (by omega))
  have ⟨k1,k2⟩:=XB (red R e n).1 n (R-(red R e n).2.length) (red R e n).2.length
  unfold red
  rw[<-hk,<-h1]
  generalize fk (red R e n).1 n (red R e n).2.length (R-(red R e n).2.length)=k at *
  by_cases hR:k=R
  ·rw[jm hR,jm hR];exact⟨h1,h2⟩
  ·rw[ji hR,ji hR]
   refine⟨rfl,fun i hi c hc=>?_⟩
   show jC _ _ _ _ i c=jC _ _ _ _ i c
   have hsw:∀ c,c<C->gB (red R e n).1 (red R e n).2.length k i c=gB (red R f n).1 (red R e n).2.length k i c:=fun c hc=>by
    unfold gB;split
    ·exact h2 k (by omega) c hc
    ·split
     ·exact h2 _ (by omega) c hc
     ·exact h2 i hi c hc
   unfold jC
   rw[h2 k (by omega) c hc,h2 k (by omega) n (by omega),hsw c hc,hsw n (by omega)]
theorem a6j {n:Nat} {e:Mt} (h:(red n e n).2.length=n) {q:Nat} (hq:n<=q):∀ i,i<n->mv n e (fun c=>(red n e n).1 c q) i=e i q:=by
 have E:=iV n e n
 have hr:=(PI n e n).2 h
 intro i hi
 rw[<-E.solve hq (fun i h1 h2=>by omega) i hi]
 refine dQ n fun c hc=>?_
 unfold xs
 rw[jm (E.full h hc)]
 have h3:(red n e n).2.idxOf c=c:=by
  have a1:c<(red n e n).2.length:=by omega
  have a2:(red n e n).2[c]=c:=by simp[hr]
  have:=LD E.nd a1
  rwa [a2] at this
 rw[h3]
theorem a2U {n:Nat} {a:Mt} (h:∀ x,(∀ i,i<n->mv n a x i=0)->∀ c,c<n->x c=0) (b:Nat->Rat):∃ x,∀ i,i<n->mv n a x i=b i:=by
 have E:=iV n (fun i c=>if c<n then a i c else b i) n
 have hc:∀ x i,mv n (fun i c=>if c<n then a i c else b i) x i=mv n a x i:=fun x i=>dQ n fun c hc=>by simp only[jm hc]
 have hl:=E.inj.mpr (fun x hx=>h x (fun i hi=>by rw[<-hc];exact hx i hi))
 refine⟨fun c=>(red n (fun i c=>if c<n then a i c else b i) n).1 c n,fun i hi=>?_⟩
 rw[<-hc,a6j hl (ay n) i hi,ji (by omega)]
end
theorem b6x (a:Mt):tr (tr a)=a:=rfl
theorem a2y (m k:Nat) (a b c:Mt):mm m (mm k a b) c=mm k a (mm m b c):=by
 funext i j;unfold mm
 rw[show (fun l=>sm k (fun q=>a i q*b q l)*c l j)=(fun l=>sm k (fun q=>a i q*b q l*c l j)) from funext fun l=>(a1c _ _ k).symm,a1d]
 refine dQ k fun q _=>?_
 rw[<-uI];exact dQ m fun l _=>by grind
def ma (a b:Mt):Mt:=fun i j=>a i j+b i j
def ms (a b:Mt):Mt:=fun i j=>a i j-b i j
def zm:Mt:=fun _ _=>0
structure Gau (N f:Nat) (n g:Mt):Prop where
 sym:∀ i,i<N->∀ j,j<N->n i j=n j i
 ng:∀ i,i<N->∀ j,j<f->mm N n g i j=0
 rank:(red N g f).2.length=f
 dim:f+(red N n N).2.length=N
theorem TM (n f:Nat) (a b:Mt) (x:Nat->Rat) (i:Nat):mv f (mm n a b) x i=mv n a (mv f b x) i :=
 congrFun (congrFun (a2y f n a b (fun k _=>x k)) i) 0
theorem a3R (n:Nat) (a:Mt) (x y:Nat->Rat) (i:Nat):mv n a (fun c=>x c-y c) i=mv n a x i-mv n a y i:=by
 unfold mv;rw[<-b2p];exact dQ n fun k _=>by grind
theorem b4m {n:Nat} {a:Mt} {x:Nat->Rat} {i:Nat} (h:∀ c,c<n->x c=0):mv n a x i=0:=mQ n fun c hc=>by rw[h c hc];grind
theorem Gau.inj {N f:Nat} {n g:Mt} (H:Gau N f n g) {z:Nat->Rat} (h:∀ i,i<N->mv f g z i=0):∀ c,c<f->z c=0:=(iV N g f).inj.mp H.rank z h
theorem Gau.nul {N f:Nat} {n g:Mt} (H:Gau N f n g) (z:Nat->Rat):∀ i,i<N->mv N n (mv f g z) i=0:=fun i hi=>by
 rw[<-TM];exact mQ f fun c hc=>by rw[H.ng i hi c hc];grind
theorem Gau.span {N f:Nat} {n g:Mt} (H:Gau N f n g) {x:Nat->Rat} (hx:∀ i,i<N->mv N n x i=0):∃ t,∀ i,i<N->x i=mv f g t i:=by
 have E:=iV N n N
 have hfr:=KW E.nd E.lt
 have hf:(frees N (red N n N).2).length=f:=by have:=H.dim;omega
 have hin:∀ {y:Nat->Rat},(∀ i,i<N->mv N n y i=0)->(∀ s,s<f->y ((frees N (red N n N).2).getD s 0)=0)->∀ c,c<N->y c=0:=fun {y} hy h0=>by
  refine E.span hy fun c hc hp=>?_
  have h1:=KX.mpr ⟨hc,hp⟩
  have ⟨a1,a2⟩:=a0G h1
  rw[hf] at a1;have:=h0 _ a1;rwa [a2] at this
 have ⟨t,ht⟩:=a2U (n:=f) (a:=fun s c=>g ((frees N (red N n N).2).getD s 0) c) (fun z hz=>H.inj (hin (H.nul z) (fun s hs=>hz s hs))) (fun s=>x ((frees N (red N n N).2).getD s 0))
 refine⟨t,fun i hi=>?_⟩
 have:=hin (y:=fun c=>x c-mv f g t c) (fun i hi=>by rw[a3R,hx i hi,H.nul t i hi];grind) (fun s hs=>by
  have:mv f g t ((frees N (red N n N).2).getD s 0)=x ((frees N (red N n N).2).getD s 0):=ht s hs
  rw[this];grind) i hi
 grind
theorem b7q {i j:Nat} (h:i≠j):idm i j=0:=ji h
theorem b0j (i:Nat):idm i i=1:=jm rfl
def fD (n:Nat) (a b:Mt):Mt:=fun i j=>if j<n then a i j else b i (j-n)
structure sK (n:Nat) (a x:Mt):Prop where
 r:∀ i,i<n->∀ j,j<n->mm n a x i j=idm i j
 l:∀ i,i<n->∀ j,j<n->mm n x a i j=idm i j
theorem TL {n:Nat} {a:Mt} {x y:Nat->Rat} {i:Nat} (h:∀ c,c<n->x c=y c):mv n a x i=mv n a y i:=dQ n fun c hc=>by rw[h c hc]
theorem b1f {n:Nat} {x:Nat->Rat} {i:Nat} (h:i<n):mv n idm x i=x i:=by
 unfold mv;rw[MI i n h (fun k _ hk=>by unfold idm;rw[ji (by omega)];grind)]
 unfold idm;rw[jm rfl];grind
theorem AA {n:Nat} {a b:Mt} {x:Nat->Rat} {i:Nat} (h:∀ c,c<n->a i c=b i c):mv n a x i=mv n b x i:=dQ n fun c hc=>by rw[h c hc]
theorem sK.mvl {n:Nat} {a x:Mt} (H:sK n a x) (u:Nat->Rat) {i:Nat} (h:i<n):mv n x (mv n a u) i=u i:=by
 rw[<-TM,AA (b:=idm) (fun c hc=>H.l i h c hc),b1f h]
theorem sK.inj {n:Nat} {a x:Mt} (H:sK n a x) {u:Nat->Rat} (h:∀ i,i<n->mv n a u i=0):∀ c,c<n->u c=0:=fun c hc=>by
 rw[<-H.mvl u hc];exact b4m h
theorem a5J (n:Nat) (a b:Mt) (x:Nat->Rat) (i:Nat):mv n (fD n a b) x i=mv n a x i:=AA fun _ hc=>jm hc
theorem a0z {n:Nat} {a:Mt} (b:Mt):(red n (fD n a b) n).2.length=n↔(∀ x,(∀ i,i<n->mv n a x i=0)->∀ c,c<n->x c=0):=by
 have:=(iV n (fD n a b) n).inj
 simp only[a5J] at this;exact this
theorem inv_of {n:Nat} {a:Mt} (h:(red n (fD n a idm) n).2.length=n):sK n a (fun i j=>(red n (fD n a idm) n).1 i (n+j)):=by
 have hr:∀ i,i<n->∀ j,j<n->mm n a (fun i j=>(red n (fD n a idm) n).1 i (n+j)) i j=idm i j:=fun i hi j hj=>by
  have:=a6j h (Nat.le_add_right n j) i hi
  rw[a5J] at this
  show mv n a (fun c=>(red n (fD n a idm) n).1 c (n+j)) i=_
  rw[this];unfold fD;rw[ji (by omega),Dv]
 refine⟨hr,fun i hi j hj=>?_⟩
 generalize (fun i j=>(red n (fD n a idm) n).1 i (n+j))=x at hr ⊢
 have h1:=(a0z idm).mp h (fun k=>mm n x a k j-idm k j) (fun k hk=>?_) i hi
 ·grind
 ·rw[a3R]
  have h2:mv n a (fun k=>mm n x a k j) k=mm n a (mm n x a) k j:=rfl
  have h3:mv n a (fun k=>idm k j) k=a k j:=by
   unfold mv;rw[MI j n hj (fun q _ hq=>by show a k q*idm q j=0;rw[b7q hq];grind)]
   show a k j*idm j j=_;rw[b0j];grind
  have h4:mm n (mm n a x) a k j=a k j:=by
   rw[show mm n (mm n a x) a k j=mv n (mm n a x) (fun q=>a q j) k from rfl,AA (b:=idm) (fun c hc=>hr k hk c hc),b1f hk]
  rw[h2,h3,<-a2y,h4];grind
def dt (n:Nat) (x y:Nat->Rat):Rat:=sm n fun i=>x i*y i
theorem b5V (n m:Nat) (a:Mt) (x y:Nat->Rat):dt n x (mv m a y)=dt m (mv n (tr a) x) y:=by
 unfold dt mv
 rw[dQ n (g:=fun i=>sm m fun k=>x i*(a i k*y k)) (fun i _=>by rw[uI]),a1d]
 refine dQ m fun k _=>?_
 rw[<-a1c];exact dQ n fun i _=>by show x i*(a i k*y k)=a i k*x i*y k;grind
theorem QW {n:Nat} {x y z:Nat->Rat} (h:∀ i,i<n->y i=z i):dt n x y=dt n x z:=dQ n fun i hi=>by rw[h i hi]
theorem QV {n:Nat} {x y z:Nat->Rat} (h:∀ i,i<n->x i=y i):dt n x z=dt n y z:=dQ n fun i hi=>by rw[h i hi]
def Cdn (e:Mt) (R C K:Nat):Prop:=∃ D:Nat,0<D/\nsz D<=K/\∀ i,i<R->∀ j,j<C->∃ z:Int,e i j*(D:Nat)=(z:Int)/\isz z<=K
theorem a0I {D:Nat} (h:0<D):((D:Nat):Rat)≠0:=fun h1=>by
 have:((D:Nat):Rat)=((0:Nat):Rat):=h1
 have:=Rat.natCast_inj.mp this;omega
theorem Cdn.rsz {e:Mt} {R C K:Nat} (H:Cdn e R C K) {i j:Nat} (h1:i<R) (h2:j<C):rsz (e i j)<=K:=by
 obtain⟨D,h0,hD,h⟩:=H
 obtain⟨z,hz,hs⟩:=h i h1 j h2
 have e1:e i j=Rat.divInt z D:=by
  rw[Dq,<-hz,Rat.div_def]
  have:((D:Int):Rat)=((D:Nat):Rat):=Rat.intCast_natCast D
  rw[this,Rat.mul_assoc,Bq _ (a0I h0)];grind
 rw[e1]
 exact xU _ _ (by omega) hs (by unfold isz;simpa using hD)
theorem Cdn.mono {e:Mt} {R C K L:Nat} (H:Cdn e R C K) (h:K<=L):Cdn e R C L:=by
 obtain⟨D,h0,hD,hh⟩:=H
 exact⟨D,h0,by omega,fun i h1 j h2=>by obtain⟨z,hz,hs⟩:=hh i h1 j h2;exact⟨z,hz,by omega⟩⟩
theorem Cdn.congr {e f:Mt} {R C K:Nat} (H:Cdn e R C K) (h:∀ i,i<R->∀ j,j<C->f i j=e i j):Cdn f R C K:=by
 obtain⟨D,h0,hD,hh⟩:=H
 exact⟨D,h0,hD,fun i h1 j h2=>by rw[h i h1 j h2];exact hh i h1 j h2⟩
theorem Cdn.tr {e:Mt} {R C K:Nat} (H:Cdn e R C K):Cdn (tr e) C R K:=by
 obtain⟨D,h0,hD,hh⟩:=H
 exact⟨D,h0,hD,fun i h1 j h2=>hh j h2 i h1⟩
theorem b5Q {f:Nat->Rat} {D K:Nat}:∀ n,(∀ k,k<n->∃ z:Int,f k*(D:Nat)=(z:Int)/\isz z<=K)->∃ z:Int,sm n f*(D:Nat)=(z:Int)/\isz z<=K+n
 | 0,_=>⟨0,by show (0:Rat)*_=_;rw[Rat.zero_mul];rfl,by rw[SH];omega⟩
 | n+1,h=>by
  have ⟨z,h1,h2⟩:=b5Q n (fun k hk=>h k (by omega))
  have ⟨y,h3,h4⟩:=h n (by omega)
  refine⟨z+y,?_,by have:=xH z y;omega⟩
  show (sm n f+f n)*_=_
  rw[Rat.intCast_add,<-h1,<-h3];grind
theorem tX (a b:Nat):((a*b:Nat):Rat)=(a:Rat)*(b:Rat):=Rat.natCast_mul a b
theorem Cdn.mm {a b:Mt} {R n C K L:Nat} (H:Cdn a R n K) (G:Cdn b n C L):Cdn (mm n a b) R C (K+L+n):=by
 obtain⟨D,h0,hD,hh⟩:=H
 obtain⟨E,g0,gD,gg⟩:=G
 refine⟨D*E,Nat.mul_pos h0 g0,by have:=vG D E;omega,fun i hi j hj=>b5Q n fun k hk=>?_⟩
 obtain⟨z,h1,h2⟩:=hh i hi k hk
 obtain⟨y,h3,h4⟩:=gg k hk j hj
 exact⟨z*y,by rw[yg,<-h1,<-h3,tX];grind,by have:=gJ z y;omega⟩
theorem Cdn.two {a b:Mt} {R C K L:Nat} (H:Cdn a R C K) (G:Cdn b R C L) (s:Int) (hs:s=1\/s=-1):Cdn (fun i j=>a i j+s*b i j) R C (K+L+1):=by
 obtain⟨D,h0,hD,hh⟩:=H
 obtain⟨E,g0,gD,gg⟩:=G
 refine⟨D*E,Nat.mul_pos h0 g0,by have:=vG D E;omega,fun i hi j hj=>?_⟩
 obtain⟨z,h1,h2⟩:=hh i hi j hj
 obtain⟨y,h3,h4⟩:=gg i hi j hj
 refine⟨z*E+s*(y*D),?_,?_⟩
 ·rw[Rat.intCast_add,yg,yg,yg,<-h1,<-h3,tX,Rat.intCast_natCast,Rat.intCast_natCast];grind
 ·have a1:=gJ z E;have a2:=gJ y D
  have a3:isz ((E:Nat):Int)<=L:=by unfold isz;simpa using gD
  have a4:isz ((D:Nat):Int)<=K:=by unfold isz;simpa using hD
  have a5:=xH (z*E) (s*(y*D))
  have a6:isz (s*(y*D))=isz (y*D):=by
   rcases hs with h|h
   ·rw[h,Int.one_mul]
   ·rw[h,Int.neg_one_mul,kH]
  omega
theorem Cdn.add {a b:Mt} {R C K L:Nat} (H:Cdn a R C K) (G:Cdn b R C L):Cdn (ma a b) R C (K+L+1) :=
 (H.two G 1 (Or.inl rfl)).congr fun i _ j _=>by show a i j+b i j=a i j+((1:Int):Rat)*b i j;rw[show ((1:Int):Rat)=1 from rfl];grind
theorem Cdn.sub {a b:Mt} {R C K L:Nat} (H:Cdn a R C K) (G:Cdn b R C L):Cdn (ms a b) R C (K+L+1) :=
 (H.two G (-1) (Or.inr rfl)).congr fun i _ j _=>by show a i j-b i j=a i j+((-1:Int):Rat)*b i j;rw[show ((-1:Int):Rat)=-1 from rfl];grind
theorem Cdn.idm (R C:Nat):Cdn idm R C 1:=by
 refine⟨1,by omega,vU (x:=(1:Int)) (k:=1) (by unfold BB;decide),fun i _ j _=>⟨if i=j then 1 else 0,?_,?_⟩⟩
 ·show (if i=j then (1:Rat) else 0)*((1:Nat):Rat)=((if i=j then (1:Int) else 0:Int):Rat)
  rw[show ((1:Nat):Rat)=1 from rfl,Rat.mul_one]
  by_cases h:i=j
  ·rw[jm h,jm h];rfl
  ·rw[ji h,ji h];rfl
 ·split
  ·exact vU (by unfold BB;decide)
  ·rw[SH];omega
theorem Cdn.bes {a b:Mt} {R n C K L:Nat} (H:Cdn a R n K) (G:Cdn b R C L):Cdn (fD n a b) R (n+C) (K+L):=by
 obtain⟨D,h0,hD,hh⟩:=H
 obtain⟨E,g0,gD,gg⟩:=G
 have a3:isz ((E:Nat):Int)<=L:=by unfold isz;simpa using gD
 have a4:isz ((D:Nat):Int)<=K:=by unfold isz;simpa using hD
 refine⟨D*E,Nat.mul_pos h0 g0,by have:=vG D E;omega,fun i hi j hj=>?_⟩
 unfold fD
 by_cases h:j<n
 ·obtain⟨z,h1,h2⟩:=hh i hi j h
  refine⟨z*E,?_,by have:=gJ z E;omega⟩
  rw[jm h,yg,<-h1,tX,Rat.intCast_natCast];grind
 ·obtain⟨z,h1,h2⟩:=gg i hi (j-n) (by omega)
  refine⟨z*D,?_,by have:=gJ z D;omega⟩
  rw[ji h,yg,<-h1,tX,Rat.intCast_natCast];grind
theorem Cdn.step {e:Mt} {R C K r k j:Nat} (H:Cdn e R C K) (hr:r<R) (hk:k<R) (hj:j<C) (hz:e k j≠0):Cdn (jC e r k j) R C (2*K+1):=by
 obtain⟨D,h0,hD,hh⟩:=H
 obtain⟨p,p1,p2⟩:=hh k hk j hj
 have a4:isz ((D:Nat):Int)<=K:=by unfold isz;simpa using hD
 have hsw:∀ i,i<R->∀ c,c<C->∃ z:Int,gB e r k i c*(D:Nat)=(z:Int)/\isz z<=K:=fun i hi c hc=>by
  unfold gB;split
  ·exact hh k hk c hc
  ·split
   ·exact hh r hr c hc
   ·exact hh i hi c hc
 have hp:p≠0:=fun h=>by
  rw[h] at p1
  have h3:e k j*(D:Nat)=0:=p1
  have h2:=a0I h0
  have:e k j*(D:Nat)*((D:Nat):Rat)⁻¹=e k j:=by rw[Rat.mul_assoc,Bq _ h2];grind
  rw[h3] at this;exact hz (by rw[<-this];grind)
 have hpR:(p:Rat)≠0:=fun h=>hp (Rat.intCast_inj.mp h)
 have hpa:((p.natAbs:Nat):Rat)=(p.sign:Rat)*p:=by
  rw[<-Rat.intCast_natCast,<-yg,show p.sign*p=(p.natAbs:Int) by rw[Int.sign_mul_self]]
 have hs:isz p.sign<=1:=by
  refine vU ?_
  have:=Int.natAbs_sign_of_ne_zero hp;rw[this];unfold BB;decide
 have hsm:∀ y:Int,isz (p.sign*y)=isz y:=fun y=>by
  rcases Cm p 0 with h|h|h
  ·rw[uj h,Int.neg_one_mul,kH]
  ·exact absurd h hp
  ·rw[wu h,Int.one_mul]
 refine⟨D*p.natAbs,Nat.mul_pos h0 (Int.natAbs_pos.mpr hp),by have:=vG D p.natAbs;unfold isz at p2;omega,fun i hi c hc=>?_⟩
 obtain⟨y,y1,y2⟩:=hh k hk c hc
 have hdv:e k c / e k j*p=y:=by
  rw[<-p1,<-y1,Rat.div_def]
  have:=Bq _ hz;grind
 unfold jC
 by_cases h:i=r
 ·refine⟨p.sign*(y*D),?_,by rw[hsm];have:=gJ y D;omega⟩
  rw[jm h,tX,hpa,yg,yg,Rat.intCast_natCast,<-hdv];grind
 ·obtain⟨z,z1,z2⟩:=hsw i hi c hc
  obtain⟨x,x1,x2⟩:=hsw i hi j hj
  refine⟨p.sign*(z*p-x*y),?_,?_⟩
  ·rw[ji h,tX,hpa,yg,Rat.intCast_sub,yg,yg,<-z1,<-x1,<-hdv];grind
  ·rw[hsm];have b1:=a0B (z*p) (x*y);have b2:=gJ z p;have b3:=gJ x y;omega
theorem Cdn.red {e:Mt} {R C K:Nat} (H:Cdn e R C K):∀ n,n<=C->Cdn (red R e n).1 R C (2 ^ n*(K+1)-1)
 | 0,_=>H.mono (by omega)
 | n+1,hn=>by
  have ih:=Cdn.red H n (by omega)
  have E:=iV R e n
  rw[UD]
  have ⟨k1,k2⟩:=XB (Proofs.YtbkocjmmbkifjaaGreat.red R e n).1 n (R-(Proofs.YtbkocjmmbkifjaaGreat.red R e n).2.length) (Proofs.YtbkocjmmbkifjaaGreat.red R e n).2.length
  have k4:=a1P (Proofs.YtbkocjmmbkifjaaGreat.red R e n).1 n (R-(Proofs.YtbkocjmmbkifjaaGreat.red R e n).2.length) (Proofs.YtbkocjmmbkifjaaGreat.red R e n).2.length
  have hle:=E.le
  split
  ·exact ih.mono (by have:=oh (K+1) (xu (show 0<2 by omega) (show n<=n+1 by omega));omega)
  ·rename_i h
   refine(ih.step (r:=(Proofs.YtbkocjmmbkifjaaGreat.red R e n).2.length) (by omega) (by omega) (show n<C by omega) (k4 (by omega))).mono ?_
   have h1:0<2 ^ n*(K+1):=Nat.mul_pos (Nat.pow_pos (by omega)) (by omega)
   rw[Nat.pow_succ,xw (2 ^ n) 2,Nat.mul_assoc];omega
def pd:Nat->(Nat->Nat)->Nat
 | 0,_=>1
 | n+1,f=>pd n f*f n
theorem a4d {f:Nat->Nat}:∀ n,(∀ k,k<n->0<f k)->0<pd n f
 | 0,_=>Nat.one_pos
 | n+1,h=>Nat.mul_pos (a4d n (fun k hk=>h k (by omega))) (h n (by omega))
theorem a4b {f:Nat->Nat} {k:Nat}:∀ n,k<n->f k ∣ pd n f
 | 0,h=>by omega
 | n+1,h=>by
  show f k ∣ pd n f*f n
  by_cases e:k=n
  ·rw[e];exact Nat.dvd_mul_left _ _
  ·exact Nat.dvd_trans (a4b n (by omega)) (Nat.dvd_mul_right _ _)
theorem a4c {f:Nat->Nat} {K:Nat}:∀ n,(∀ k,k<n->nsz (f k)<=K)->nsz (pd n f)<=n*K+1
 | 0,_=>by
  have:isz ((1:Nat):Int)<=1:=vU (by unfold BB;decide)
  show nsz 1<=_;unfold isz at this;simp at this;omega
 | n+1,h=>by
  have h1:=a4c n (fun k hk=>h k (by omega))
  have h2:=h n (by omega)
  have h3:=vG (pd n f) (f n)
  show nsz (pd n f*f n)<=_;rw[Aa];omega
theorem Cdn.of {e:Mt} {R C:Nat} (h:∀ i,i<R->∀ j,j<C->Proofs.YtbkocjmmbkifjaaGreat.rsz (e i j)<=1):Cdn e R C (R*(C+1)+2):=by
 have hp:0<pd R (fun i=>pd C (fun j=>(e i j).den)):=a4d R fun i _=>a4d C fun j _=>(e i j).den_pos
 have hn:nsz (pd R (fun i=>pd C (fun j=>(e i j).den)))<=R*(C+1)+1:=a4c R fun i hi=>by
  have:=a4c (f:=fun j=>(e i j).den) (K:=1) C fun j hj=>iq (Nat.le_max_right _ _) (h i hi j hj)
  omega
 refine⟨_,hp,by omega,fun i hi j hj=>?_⟩
 have ⟨q,hq⟩:(e i j).den ∣ pd R (fun i=>pd C (fun j=>(e i j).den)):=Nat.dvd_trans (a4b (f:=fun j=>(e i j).den) C hj) (a4b (f:=fun i=>pd C (fun j=>(e i j).den)) R hi)
 refine⟨(e i j).num*q,?_,?_⟩
 ·rw[hq,tX,yg,Rat.intCast_natCast]
  have h1:e i j*((e i j).den:Rat)=(e i j).num:=by
   have h2:=Rat.num_divInt_den (e i j)
   have h3:=Rat.inv_mul_cancel _ (a0I (e i j).den_pos)
   rw[Dq,Rat.div_def,Rat.intCast_natCast] at h2
   generalize ((e i j).num:Rat)=x at *
   generalize ((e i j).den:Rat)=y at *
   rw[<-h2,Rat.mul_assoc,h3,Rat.mul_one]
  rw[<-h1];grind
 ·have a1:=gJ (e i j).num q
  have a2:isz (e i j).num<=1:=iq (Nat.le_max_left _ _) (h i hi j hj)
  have a3:nsz q<=R*(C+1)+1:=iq (AB (by rw[hq];exact Nat.le_mul_of_pos_left _ (e i j).den_pos)) hn
  have a4:isz ((q:Nat):Int)<=R*(C+1)+1:=by unfold isz;simpa using a3
  omega
end Go.Proofs.YtbkocjmmbkifjaaGreat
