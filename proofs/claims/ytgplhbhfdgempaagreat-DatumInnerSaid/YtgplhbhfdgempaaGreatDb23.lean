/-
  Lemmas for the statements about datums, part 23 of 37.
-/
import Derived.Test.YtgplhbhfdgempaaGreatDb22
namespace Go.Proofs.YtgplhbhfdgempaaGreat
open Go Go.RowKit
set_option maxRecDepth 100000
set_option maxHeartbeats 1000000
set_option linter.unusedVariables false
set_option linter.unusedSimpArgs false
instance c5x (n:Nat):OfNat (Ty.den tI) n:=inferInstanceAs (OfNat Int n)
abbrev LQ':Type:=List Rat
abbrev lv (l:LQ') (i:Nat):Rat:=l.getD i 0
theorem aZ {R C:Nat} {f:Nat->Nat->Rat}:(tab R C f).length=R:=by simp[tab]
theorem jI {R C:Nat} {f:Nat->Nat->Rat} {i:Nat} (h:i<R):(tab R C f).getD i []=(List.range C).map (f i):=by
 simp[tab,ay,h]
theorem kN {R C:Nat} {f:Nat->Nat->Rat} {i j:Nat} (h1:i<R) (h2:j<C):ent (tab R C f) i j=f i j:=by
 show ((tab R C f).getD i []).getD j 0=_
 rw[jI h1];simp[ay,h2]
theorem b3C {R C:Nat} {f:Nat->Nat->Rat}:∀ r ∈ tab R C f,r.length=C:=by
 intro r hr;obtain⟨i,_,rfl⟩:=ni.mp hr;simp
theorem pV {R C:Nat} {f:Nat->Nat->Rat} (r1:1<=R) (r2:R<=64) (c1:1<=C) (c2:C<=64):isM (tab R C f) R C:=⟨aZ,b3C,r1,r2,c1,c2⟩
theorem isM.wd {a:MQ} {R C:Nat} (h:isM a R C):wdM a=C:=fA (p:=fun r:List Rat=>r.length=C) h.2.1 (by have:=h.1;have:=h.2.2.1;omega)
theorem isM.row {a:MQ} {R C:Nat} (h:isM a R C) {i:Nat} (hi:i<R):(a.getD i []).length=C:=fA (p:=fun r:List Rat=>r.length=C) h.2.1 (by have:=h.1;omega)
theorem fE {R C:Nat} {f g:Nat->Nat->Rat} (h:∀ i,i<R->∀ j,j<C->f i j=g i j):tab R C f=tab R C g:=by
 unfold tab
 refine jf fun i hi=>jf fun j hj=>h i (qN.mp hi) j (qN.mp hj)
theorem FK {a:List Rat} {C:Nat} (h:a.length=C):(List.range C).map (fun j=>a.getD j 0)=a:=by
 apply yw
 ·simp[h]
 ·intro j h1 h2;simp[ay,h2]
theorem isM.tab {a:MQ} {R C:Nat} (h:isM a R C):Proofs.YtgplhbhfdgempaaGreat.tab R C (ent a)=a:=by
 apply yw
 ·rw[aZ,h.1]
 ·intro i h1 h2
  have hi:i<R:=by rw[<-h.1];exact h2
  have e:(Proofs.YtgplhbhfdgempaaGreat.tab R C (ent a))[i]=(Proofs.YtgplhbhfdgempaaGreat.tab R C (ent a)).getD i []:=by rw[ay,dn h1];rfl
  rw[e,jI hi]
  have e2:a[i]=a.getD i []:=by rw[ay,dn h2];rfl
  rw[e2];exact FK (h.row hi)
theorem jT {R C:Nat} {f:Nat->Nat->Rat} {i:Nat} (h:i<R):(bK R C f).getD i []=(List.range C).map (fun c=>dS (f i c)):=by
 simp[bK,ay,h]
theorem map_set {α:Type} (g:Nat->α) (C c:Nat) (v:α):((List.range C).map g).set c v=(List.range C).map (fun d=>if d=c then v else g d):=by
 apply yw
 ·simp
 ·intro i h1 h2
  rw[List.getElem_set]
  by_cases e:c=i
  ·subst e;simp
  ·rw[dw e];simp[show ¬ i=c by omega]
theorem a4w {R C:Nat} {f:Nat->Nat->Rat} (i:Nat) (g:Nat->Rat):(bK R C f).set i ((List.range C).map fun c=>dS (g c))=bK R C (fun k=>if k=i then g else f k):=by
 unfold bK;rw[map_set]
 refine jf fun k _=>?_
 by_cases e:k=i
 ·simp only[eY e]
 ·simp only[dw e]
theorem mF {R C:Nat} {f g:Nat->Nat->Rat} (h:∀ i,i<R->∀ j,j<C->f i j=g i j):bK R C f=bK R C g:=by
 unfold bK
 refine jf fun i hi=>jf fun j hj=>?_
 rw[h i (qN.mp hi) j (qN.mp hj)]
theorem gG {α:Type} {g:Nat->α} {C c:Nat} {d:α} (h:c<C):((List.range C).map g).getD c d=g c:=by
 simp[ay,h]
def szM (a:MQ) (K:Nat):Prop:=∀ i,i<a.length->∀ j,j<wdM a->rsz (ent a i j)<=K
def okM (a:MQ):Prop:=isM a a.length (wdM a)/\szM a 100000000
abbrev liftM (a:MQ):MR:=List.map (fun xs=>List.map (fun x=>dS x) xs) a
theorem PO (a:MQ):(liftM a).length=a.length:=by simp
theorem a9f (a:MQ) (i:Nat):(liftM a).getD i []=(a.getD i []).map dS:=by
 simp[ay]
 cases a[i]?<;>rfl
theorem WI (a:MQ):wdM (liftM a)=wdM a:=by show ((liftM a).getD 0 []).length=(a.getD 0 []).length;rw[a9f,ny]
theorem okM.ent {a:MQ} (h:okM a) {r:List Rat} (hr:r ∈ a) {x:Rat} (hx:x ∈ r):rsz x<=100000000:=by
 obtain⟨i,hi,rfl⟩:=Bc hr
 obtain⟨j,hj,rfl⟩:=Bc hx
 have h1:=h.1.2.1 _ (jm hi)
 have h2:=h.2 i hi j (by rw[<-h1];exact hj)
 have e:Proofs.YtgplhbhfdgempaaGreat.ent a i j=a[i][j]:=by
  show (a.getD i []).getD j 0=_
  rw[show a.getD i []=a[i] by rw[ay,dn hi];rfl,ay,dn hj];rfl
 rwa [e] at h2
theorem IE (x:Rat):(dS x).n<=rsz x/\(dS x).m<=rsz x:=⟨Nat.le_max_left _ _,Nat.le_max_right _ _⟩
theorem okM.short {a:MQ} (h:okM a):iM (liftM a):=by
 refine⟨by have:=h.1.2.2.2.1;simp;omega,fun r hr=>?_⟩
 obtain⟨s,hs,rfl⟩:=ni.mp hr
 refine⟨by have:=h.1.2.1 s hs;have:=h.1.2.2.2.2.2;simp;omega,fun q hq=>?_⟩
 obtain⟨x,hx,rfl⟩:=ni.mp hq
 have h1:=h.ent hs hx
 have ⟨h2,h3⟩:=IE x
 exact⟨by omega,by omega⟩
theorem okM.chk {a:MQ} (h:okM a):bW (liftM a)=0:=by
 obtain⟨⟨h1,h2,h3,h4,h5,h6⟩,_⟩:=h
 have hb:(liftM a).any (badR (wdM a))=false:=by
  refine vC.mpr fun r hr=>?_
  obtain⟨s,hs,rfl⟩:=ni.mp hr
  unfold badR
  have:(List.map (fun x=>dS x) s).any (fun q=>!q.ok)=false:=vC.mpr fun q hq=>by
   obtain⟨x,_,rfl⟩:=ni.mp hq;simp[dS]
  rw[this,ny,h2 s hs];simp
 unfold bW
 rw[PO,WI,hb,eY ⟨h3,h4,h5,h6,rfl⟩]
def wH (m n:Int) (f:Nat->Nat->Rat) (P:Int->Int->Prop) (Fin:MR->Prop):Prop:=(m=m/\0<=m/\m<=1000000000/\True)/\(asT Int 0=0/\List.replicate m.toNat (aC aF)=List.replicate (Int.toNat m-0) (aC aF)/\True)/\∀ (i:{ k:Nat // k<=Int.toNat m }),asT Bool true=true/\ifB (decide (aA (aB i)<aA (aH none (List.replicate m.toNat (aC aF))))) ((n=n/\0<=n/\n<=1000000000/\0<=aA (aB i)/\aA (aB i)<aA (aH none (bK (aB i) n.toNat f++List.replicate (Int.toNat m-aB i) (aC aF)))/\Int.toNat (aA (aB i))<aH none (bK (aB i) n.toNat f++List.replicate (Int.toNat m-aB i) (aC aF))/\True)/\(0<=aA (aB i)/\aA (aB i)<aA (aH (some (List.set (aX none (bK (aB i) n.toNat f++List.replicate (Int.toNat m-aB i) (aC aF))) (aA (aB i)).toNat (bK (aB i) n.toNat f++List.replicate (Int.toNat m-aB i) (aC aF)).length)) (bK (aB i) n.toNat f++List.replicate (Int.toNat m-aB i) (aC aF)++List.replicate n.toNat { ok:=false,x:=0,g:=aC Nat,h:=aC Nat }::aC (List aF)))/\Int.toNat (aA (aB i))<aH (some (List.set (aX none (bK (aB i) n.toNat f++List.replicate (Int.toNat m-aB i) (aC aF))) (aA (aB i)).toNat (bK (aB i) n.toNat f++List.replicate (Int.toNat m-aB i) (aC aF)).length)) (bK (aB i) n.toNat f++List.replicate (Int.toNat m-aB i) (aC aF)++List.replicate n.toNat { ok:=false,x:=0,g:=aC Nat,h:=aC Nat }::aC (List aF))/\True)/\(asT Int 0=0/\List.Nodup (List.set (aX none (bK (aB i) n.toNat f++List.replicate (Int.toNat m-aB i) (aC aF))) (aA (aB i)).toNat (bK (aB i) n.toNat f++List.replicate (Int.toNat m-aB i) (aC aF)).length)/\List.map (fun(i_1:Nat)=>List.getD (bK (aB i) n.toNat f++List.replicate (Int.toNat m-aB i) (aC aF)++List.replicate n.toNat { ok:=false,x:=0,g:=aC Nat,h:=aC Nat }::aC (List aF)) i_1 (aC aF)) (List.set (aX none (bK (aB i) n.toNat f++List.replicate (Int.toNat m-aB i) (aC aF))) (aA (aB i)).toNat (bK (aB i) n.toNat f++List.replicate (Int.toNat m-aB i) (aC aF)).length)=bK (aB i) n.toNat f++(List.map (fun(j:Nat)=>dS (f (aB i) j)) (List.range 0)++List.replicate (Int.toNat n-0) bV)::aC (List aF)++List.replicate (Int.toNat m-aB i-1) (aC aF)/\True)/\∀ (i_1:{ q:Nat // q<=Int.toNat n }),asT Bool true=true/\ifB (decide (aA (aB i_1)<aA (rowAt (bK (aB i) n.toNat f++List.replicate (Int.toNat m-aB i) (aC aF)++List.replicate n.toNat { ok:=false,x:=0,g:=aC Nat,h:=aC Nat }::aC (List aF)) (nameAt (some (List.set (aX none (bK (aB i) n.toNat f++List.replicate (Int.toNat m-aB i) (aC aF))) (aA (aB i)).toNat (bK (aB i) n.toNat f++List.replicate (Int.toNat m-aB i) (aC aF)).length)) (aA (aB i)).toNat)).length)) ((0<=aA (aB i)/\aA (aB i)<aA (aH none (bK (aB i) n.toNat f++(List.map (fun(j:Nat)=>dS (f (aB i) j)) (List.range (aB i_1))++List.replicate (Int.toNat n-aB i_1) bV)::aC (List aF)++List.replicate (Int.toNat m-aB i-1) (aC aF)))/\Int.toNat (aA (aB i))<aH none (bK (aB i) n.toNat f++(List.map (fun(j:Nat)=>dS (f (aB i) j)) (List.range (aB i_1))++List.replicate (Int.toNat n-aB i_1) bV)::aC (List aF)++List.replicate (Int.toNat m-aB i-1) (aC aF))/\P (aA (aB i)) (aA (aB i_1))/\0<=aA (aB i_1)/\aA (aB i_1)<aA (rowAt (bK (aB i) n.toNat f++(List.map (fun(j:Nat)=>dS (f (aB i) j)) (List.range (aB i_1))++List.replicate (Int.toNat n-aB i_1) bV)::aC (List aF)++List.replicate (Int.toNat m-aB i-1) (aC aF)) (nameAt none (aA (aB i)).toNat)).length/\Int.toNat (aA (aB i_1))<List.length (rowAt (bK (aB i) n.toNat f++(List.map (fun(j:Nat)=>dS (f (aB i) j)) (List.range (aB i_1))++List.replicate (Int.toNat n-aB i_1) bV)::aC (List aF)++List.replicate (Int.toNat m-aB i-1) (aC aF)) (nameAt none (aA (aB i)).toNat))/\True)/\∃ (i':{ q:Nat // q<=Int.toNat n }),Int.toNat n-aB i'<Int.toNat n-aB i_1/\IntKind.wrap IntKind.i64 (aA (aB i_1)+1)=aA (aB i')/\List.set (bK (aB i) n.toNat f++(List.map (fun(j:Nat)=>dS (f (aB i) j)) (List.range (aB i_1))++List.replicate (Int.toNat n-aB i_1) bV)::aC (List aF)++List.replicate (Int.toNat m-aB i-1) (aC aF)) (nameAt none (aA (aB i)).toNat) (List.set (rowAt (bK (aB i) n.toNat f++(List.map (fun(j:Nat)=>dS (f (aB i) j)) (List.range (aB i_1))++List.replicate (Int.toNat n-aB i_1) bV)::aC (List aF)++List.replicate (Int.toNat m-aB i-1) (aC aF)) (nameAt none (aA (aB i)).toNat)) (aA (aB i_1)).toNat (dS (f (aA (aB i)).toNat (aA (aB i_1)).toNat)))=bK (aB i) n.toNat f++(List.map (fun(j:Nat)=>dS (f (aB i) j)) (List.range (aB i'))++List.replicate (Int.toNat n-aB i') bV)::aC (List aF)++List.replicate (Int.toNat m-aB i-1) (aC aF)/\True) (∃ (i':{ k:Nat // k<=Int.toNat m }),Int.toNat m-aB i'<Int.toNat m-aB i/\IntKind.wrap IntKind.i64 (aA (aB i)+1)=aA (aB i')/\bK (aB i) n.toNat f++(List.map (fun(j:Nat)=>dS (f (aB i) j)) (List.range (aB i_1))++List.replicate (Int.toNat n-aB i_1) bV)::aC (List aF)++List.replicate (Int.toNat m-aB i-1) (aC aF)=bK (aB i') n.toNat f++List.replicate (Int.toNat m-aB i') (aC aF)/\True)) (Fin (bK (aB i) n.toNat f++List.replicate (Int.toNat m-aB i) (aC aF)))
theorem oH {R C:Nat} {f:Nat->Nat->Rat} {P:Int->Int->Prop} {Fin:MR->Prop} (r2:R<=1000) (c2:C<=1000) (hP:∀ i j:Nat,i<R->j<C->P i j) (hF:Fin (bK R C f)):wH R C f P Fin:=by
 unfold wH
 have hZ:(⟨false,0,[],[]⟩:aF)=bV:=rfl
 dsimp only[aA,asT,aB,aC] at *
 simp only[hZ,Int.toNat_natCast,aJ,dh,bn,mg,mW]
 have hX:∀ k,k<=R->(bK k C f++List.replicate (R-k) ([]:List aF)).length=R:=fun k hk=>by rw[gy,aN,uo];omega
 have hY:∀ k (Z:List aF),k<R->(bK k C f++[Z]++List.replicate (R-k-1) ([]:List aF)).length=R:=fun k Z hk=>by rw[gy,gy,aN,uo];simp;omega
 refine⟨by omega,by rw[Nat.sub_zero],fun i=>⟨fun h1=>?_,fun h1=>?_⟩⟩
 ·have hi:i.1<R:=by simpa [aH] using h1
  simp only[aH,nameAt,aX,hX i.1 i.2,hY i.1 _ hi,iw,gJ]
  have e1:((List.range R).set i.1 R).getD i.1 0=R:=by simp[ay,hi]
  have e2:rowAt (bK i.1 C f++List.replicate (R-i.1) []++[List.replicate C bV]) R=List.replicate C bV:=by
   have:=a7r (T:=[]) (hX i.1 i.2) (List.replicate C bV);rwa [yc] at this
  have e3:=a3H (bK i.1 C f++List.replicate (R-i.1) []) (List.replicate C bV) (k:=i.1) (by rw[hX i.1 i.2];exact hi)
  rw[hX i.1 i.2,b1X (aN _ _ _) hi] at e3
  rw[e1,e2,e3,uo]
  refine⟨⟨by omega,by omega,by omega,by omega,hi⟩,⟨by omega,by omega,hi⟩,⟨a7s R i.1,by simp⟩,fun q=>⟨fun h2=>?_,fun h2=>?_⟩⟩
  ·have hq:q.1<C:=by omega
   have hl:(List.map (fun j=>dS (f i.1 j)) (List.range q.1)++List.replicate (C-q.1) bV).length=C:=by simp;omega
   rw[a7r (aN _ _ _),hl]
   refine⟨⟨by omega,by omega,hi,hP _ _ hi hq,by omega,by omega,hq⟩,⟨q.1+1,by omega⟩,by simp only;omega,by rw[bF (by omega) (by omega)];rfl,?_⟩
   rw[b1Z (aN _ _ _),b1Y (fun j=>dS (f i.1 j)) bV hq]
  ·have hq:q.1=C:=by have:=q.2;omega
   refine⟨⟨i.1+1,by omega⟩,by simp only;omega,by rw[bF (by omega) (by omega)];rfl,?_⟩
   rw[hq,Nat.sub_self,List.replicate_zero,yc,a9N,Nat.sub_sub]
 ·have hi:i.1=R:=by have:=i.2;simp only[aH,uo] at h1;omega
  rw[hi,Nat.sub_self,List.replicate_zero,yc]
  exact hF
def vF (m n:Int) (f:Nat->Nat->Rat):List Ann:=[.inv {k:Nat // k<=m.toNat} (fun k=>[(14,.val tI (k.1:Int))]) (fun k=>[(11,.mat 32 64 tR none (bK k.1 n.toNat f++List.replicate (m.toNat-k.1) []) 0)]) (fun k=>m.toNat-k.1) ⟨0,by omega⟩ (fun k=>[
 .inv {q:Nat // q<=n.toNat} (fun q=>[(27,.val tI (q.1:Int)),(20,.any),(21,.any),(24,.any),(25,.any)]) (fun q=>[(11,.mat 32 64 tR none (bK k.1 n.toNat f++[(List.range q.1).map (fun j=>dS (f k.1 j))++List.replicate (n.toNat-q.1) bV]++List.replicate (m.toNat-k.1-1) []) 0)]) (fun q=>n.toNat-q.1) ⟨0,by omega⟩ (fun _=>[])])]
abbrev LKm:LK:=.mat 32 64 tR
def a0Y (T:List Ty) (ok:(nest T).den->Int->Int->Prop) (g:(nest T).den->Nat->Nat->Rat):Ctr:=⟨tI::tI::T,[tQ],fun x=>ok x.2.2 x.1 x.2.1,fun x=>(g x.2.2 (show Int from x.1).toNat (show Int from x.2.1).toNat,())⟩
def ET (T:List Ty) (ok:(nest T).den->Int->Int->Prop) (x:(nest [tI,tI,nest T]).den):Prop:=∃ R C:Nat,(show Int from x.1)=R/\(show Int from x.2.1)=C/\R<=1000/\C<=1000/\∀ i j:Nat,i<R->j<C->ok x.2.2.1 i j
def MV (F:FuncId) (T:List Ty) (ok:(nest T).den->Int->Int->Prop) (g:(nest T).den->Nat->Nat->Rat):DF:=.mk LKm [tI,tI,.clo F (nest T)] (fun x=>ET T ok x) (fun x=>bK (show Int from x.1).toNat (show Int from x.2.1).toNat (g x.2.2.1))
def sm:Nat->(Nat->Rat)->Rat
 | 0,_=>0
 | n+1,f=>sm n f+f n
theorem fG {f g:Nat->Rat}:∀ n,(∀ i,i<n->f i=g i)->sm n f=sm n g
 | 0,_=>rfl
 | n+1,h=>by show sm n f+f n=sm n g+g n;rw[fG n (fun i hi=>h i (by omega)),h n (by omega)]
theorem kP {f:Nat->Rat}:∀ n,(∀ i,i<n->f i=0)->sm n f=0
 | 0,_=>rfl
 | n+1,h=>by show sm n f+f n=0;rw[kP n (fun i hi=>h i (by omega)),h n (by omega)];grind
theorem wO (f g:Nat->Rat):∀ n,sm n (fun i=>f i+g i)=sm n f+sm n g
 | 0=>by show (0:Rat)=0+0;grind
 | n+1=>by show sm n _+(f n+g n)=(sm n f+f n)+(sm n g+g n);rw[wO f g n];grind
theorem KO (k:Rat) (f:Nat->Rat):∀ n,sm n (fun i=>k*f i)=k*sm n f
 | 0=>by show (0:Rat)=k*0;grind
 | n+1=>by show sm n _+k*f n=k*(sm n f+f n);rw[KO k f n];grind
theorem a2m (k:Rat) (f:Nat->Rat) (n:Nat):sm n (fun i=>f i*k)=sm n f*k:=by
 rw[show (fun i=>f i*k)=(fun i=>k*f i) from Ah fun i=>by grind,KO];grind
theorem a2n (f g:Nat->Rat) (n:Nat):sm n (fun i=>f i-g i)=sm n f-sm n g:=by
 rw[show (fun i=>f i-g i)=(fun i=>f i+(-1)*g i) from Ah fun i=>by grind,wO f (fun i=>(-1)*g i),KO];grind
theorem a2o (f:Nat->Nat->Rat) (m:Nat):∀ n,sm n (fun i=>sm m (fun j=>f i j))=sm m (fun j=>sm n (fun i=>f i j))
 | 0=>(kP m (fun j _=>rfl)).symm
 | n+1=>by
  show sm n (fun i=>sm m (fun j=>f i j))+sm m (fun j=>f n j)=sm m (fun j=>sm n (fun i=>f i j)+f n j)
  rw[a2o f m n,wO]
theorem KP {f:Nat->Rat} (k:Nat):∀ n,k<n->(∀ i,i<n->i≠k->f i=0)->sm n f=f k
 | 0,h,_=>by omega
 | n+1,h,hz=>by
  show sm n f+f n=f k
  by_cases e:k=n
  ·rw[kP n (fun i hi=>hz i (by omega) (by omega)),e];grind
  ·rw[KP k n (by omega) (fun i hi hk=>hz i (by omega) hk),hz n (by omega) (by omega)];grind
theorem QD {f:Nat->Rat}:∀ n,(∀ i,i<n->0<=f i)->0<=sm n f
 | 0,_=>by show (0:Rat)<=0;grind
 | n+1,h=>by
  have h1:=QD n (fun i hi=>h i (by omega));have h2:=h n (by omega)
  show 0<=sm n f+f n;grind
theorem PY {x:Rat} (h:x≠0):x / x=1:=by rw[Rat.div_def,Rat.mul_inv_cancel x h]
theorem sq_nonneg (x:Rat):0<=x*x:=by
 rcases Rat.le_total (a:=0) (b:=x) with h|h
 ·exact Rat.mul_nonneg h h
 ·have:=Rat.mul_nonneg (a:=-x) (b:=-x) (by grind) (by grind);grind
theorem b6F {f:Nat->Rat}:∀ n,sm n (fun i=>f i*f i)=0->∀ i,i<n->f i=0
 | 0,_,i,h=>by omega
 | n+1,h,i,hi=>by
  have h1:=QD (f:=fun i=>f i*f i) n (fun i _=>sq_nonneg (f i))
  have h2:=sq_nonneg (f n)
  have h:sm n (fun i=>f i*f i)+f n*f n=0:=h
  have h3:sm n (fun i=>f i*f i)=0:=by grind
  have h4:f n*f n=0:=by grind
  by_cases e:i=n
  ·rw[e];grind
  ·exact b6F n h3 i (by omega)
theorem a6e (f:Nat->Rat) (m:Nat):∀ n,sm (m+n) f=sm m f+sm n (fun i=>f (m+i))
 | 0=>by show sm m f=sm m f+0;grind
 | n+1=>by show sm (m+n) f+f (m+n)=sm m f+(sm n (fun i=>f (m+i))+f (m+n));rw[a6e f m n];grind
abbrev Mt:=Nat->Nat->Rat
def mm (n:Nat) (a b:Mt):Mt:=fun i j=>sm n fun k=>a i k*b k j
def mv (n:Nat) (a:Mt) (x:Nat->Rat):Nat->Rat:=fun i=>sm n fun k=>a i k*x k
def tr (a:Mt):Mt:=fun i j=>a j i
def idm:Mt:=fun i j=>if i=j then 1 else 0
def fk (e:Mt) (j:Nat):Nat->Nat->Nat
 | r,0=>r
 | r,n+1=>if e r j=0 then fk e j (r+1) n else r
theorem ZO (e:Mt) (j:Nat):∀ n r,r<=fk e j r n/\fk e j r n<=r+n
 | 0,r=>⟨aj _,aj _⟩
 | n+1,r=>by
  have:=ZO e j n (r+1)
  unfold fk;split<;>omega
theorem LW (e:Mt) (j:Nat):∀ n r i,r<=i->i<fk e j r n->e i j=0
 | 0,r,i,h1,h2=>by unfold fk at h2;omega
 | n+1,r,i,h1,h2=>by
  unfold fk at h2;split at h2
  ·rename_i h0
   by_cases h:i=r
   ·rw[h];exact h0
   ·exact LW e j n (r+1) i (by omega) h2
  ·omega
theorem a3b (e:Mt) (j:Nat):∀ n r,fk e j r n<r+n->e (fk e j r n) j≠0
 | 0,r,h=>by unfold fk at h;omega
 | n+1,r,h=>by
  unfold fk at h ⊢;split at h
  ·rename_i h0;rw[eY h0];exact a3b e j n (r+1) (by omega)
  ·rename_i h0;rw[dw h0];exact h0
theorem ZN (e:Mt) (j r n k:Nat) (h1:r<=k) (h2:k<=r+n) (hz:∀ i,r<=i->i<k->e i j=0) (hn:k<r+n->e k j≠0):fk e j r n=k:=by
 have ⟨a1,a2⟩:=ZO e j n r
 rcases Nat.lt_trichotomy (fk e j r n) k with h|h|h
 ·exact absurd (hz _ a1 h) (a3b e j n r (by omega))
 ·exact h
 ·exact absurd (LW e j n r k h1 h) (hn (by omega))
theorem b0X {e f:Mt} {j:Nat} (n r:Nat) (h:∀ i,r<=i->i<r+n->e i j=f i j):fk e j r n=fk f j r n:=by
 have ⟨a1,a2⟩:=ZO f j n r
 refine ZN e j r n _ a1 a2 (fun i h1 h2=>?_) (fun h1=>?_)
 ·rw[h i h1 (by omega)];exact LW f j n r i h1 h2
 ·rw[h _ a1 h1];exact a3b f j n r h1
def iV (e:Mt) (r k:Nat):Mt:=fun i=>if i=r then e k else if i=k then e r else e i
def kZ (e:Mt) (r k j:Nat):Mt:=fun i c=>if i=r then e k c / e k j else iV e r k i c-iV e r k i j*(e k c / e k j)
def red (R:Nat) (e:Mt):Nat->Mt × List Nat
 | 0=>(e,[])
 | n+1 =>
  if fk (red R e n).1 n (red R e n).2.length (R-(red R e n).2.length)=R then red R e n
  else (kZ (red R e n).1 (red R e n).2.length (fk (red R e n).1 n (red R e n).2.length (R-(red R e n).2.length)) n,(red R e n).2++[n])
structure Ech (R:Nat) (e:Mt) (n:Nat) (m:Mt) (p:List Nat):Prop where
 le:p.length<=R
 lt:∀ j ∈ p,j<n
 nd:p.Nodup
 unit:∀ t (h:t<p.length) i,i<R->m i p[t]=if i=t then 1 else 0
 rest:∀ i,p.length<=i->i<R->∀ c,c<n->m i c=0
 sol:∀ C (x:Nat->Rat),(∀ i,i<R->mv C e x i=0)↔(∀ i,i<R->mv C m x i=0)
theorem a2q (m:Mt) (r k j C:Nat) (x:Nat->Rat) (i:Nat):mv C (kZ m r k j) x i=if i=r then mv C m x k / m k j else mv C (iV m r k) x i-iV m r k i j*(mv C m x k / m k j):=by
 unfold mv kZ
 by_cases h:i=r
 ·simp only[eY h]
  rw[show (fun c=>m k c / m k j*x c)=(fun c=>m k c*x c*(m k j)⁻¹) from Ah fun c=>by rw[Rat.div_def];grind,a2m,Rat.div_def]
 ·simp only[dw h]
  rw[show (fun c=>(iV m r k i c-iV m r k i j*(m k c / m k j))*x c)=(fun c=>iV m r k i c*x c-(iV m r k i j*(m k j)⁻¹)*(m k c*x c)) from Ah fun c=>by rw[Rat.div_def];grind,a2n (fun c=>iV m r k i c*x c) (fun c=>(iV m r k i j*(m k j)⁻¹)*(m k c*x c)),KO,Rat.div_def];grind
theorem b3m (m:Mt) (R r k j C:Nat) (x:Nat->Rat) (hr:r<R) (hk:k<R) (hz:m k j≠0):(∀ i,i<R->mv C m x i=0)↔(∀ i,i<R->mv C (kZ m r k j) x i=0):=by
 have hsw:∀ i,mv C (iV m r k) x i=if i=r then mv C m x k else if i=k then mv C m x r else mv C m x i:=fun i=>by
  unfold mv iV;by_cases h1:i=r
  ·simp only[eY h1]
  ·by_cases h2:i=k
   ·simp only[dw h1,eY h2]
   ·simp only[dw h1,dw h2]
 constructor
 ·intro h i hi
  rw[a2q,hsw,h k hk]
  split
  ·rw[Rat.div_def];grind
  ·have:=h i hi;have:=h r hr;rw[Rat.div_def];split<;>grind
 ·intro h
  have h1:=h r hr
  rw[a2q,eY rfl,Rat.div_def] at h1
  have hkz:mv C m x k=0:=by
   have:mv C m x k=mv C m x k*(m k j)⁻¹*m k j:=by rw[Rat.mul_assoc,Rat.inv_mul_cancel _ hz];grind
   rw[this,h1];grind
  have hA:∀ i,i<R->i≠r->(if i=k then mv C m x r else mv C m x i)=0:=fun i hi hir=>by
   have:=h i hi
   rw[a2q,dw hir,hsw,dw hir,hkz,Rat.div_def] at this
   grind
  intro i hi
  by_cases e1:i=k
  ·rw[e1];exact hkz
  ·by_cases e2:i=r
   ·have:=hA k hk (by omega)
    rw[eY rfl] at this;rw[e2];exact this
   ·have:=hA i hi e2
    rw[dw e1] at this;exact this
theorem iL (R:Nat) (e:Mt):∀ n,Ech R e n (red R e n).1 (red R e n).2
 | 0=>⟨pq _,fun j h=>(nomatch h),List.nodup_nil,fun t h=>absurd h (Nat.not_lt_zero _),fun i _ _ c h=>absurd h (Nat.not_lt_zero _),fun _ _=>Iff.rfl⟩
 | n+1=>by
  have ih:=iL R e n
  rw[show red R e (n+1)=(if fk (red R e n).1 n (red R e n).2.length (R-(red R e n).2.length)=R then ((red R e n).1,(red R e n).2) else (kZ (red R e n).1 (red R e n).2.length (fk (red R e n).1 n (red R e n).2.length (R-(red R e n).2.length)) n,(red R e n).2++[n])) from rfl]
  generalize (red R e n).1=m at *
  generalize (red R e n).2=p at *
  generalize hk:fk m n p.length (R-p.length)=k
  have ⟨k1,k2⟩:=ZO m n (R-p.length) p.length
  have k3:=LW m n (R-p.length) p.length
  have k4:=a3b m n (R-p.length) p.length
  rw[hk] at k1 k2 k3 k4
  have hle:=ih.le
  by_cases hR:k=R
  ·rw[eY hR]
   exact⟨ih.le,fun j hj=>Nat.lt_succ_of_lt (ih.lt j hj),ih.nd,ih.unit,fun i h1 h2 c hc=>by
    by_cases e1:c=n
    ·rw[e1];exact k3 i h1 (by omega)
    ·exact ih.rest i h1 h2 c (by omega),ih.sol⟩
  ·rw[dw hR]
   have hz:m k n≠0:=k4 (by omega)
   refine⟨by simp;omega,fun j hj=>?_,?_,fun t ht i hi=>?_,fun i h1 h2 c hc=>?_,fun C x=>?_⟩
   ·rcases qA.mp hj with h|h
    ·exact Nat.lt_succ_of_lt (ih.lt j h)
    ·rw[lN.mp h];omega
   ·refine List.nodup_append.mpr ⟨ih.nd,by simp,fun a ha b hb=>?_⟩
    have:=ih.lt a ha;rw[lN.mp hb];omega
   ·have ht:t<p.length+1:=by simpa using ht
    show kZ m p.length k n i (p++[n])[t]=_
    by_cases e1:t=p.length
    ·have hc:(p++[n])[t]=n:=by simp[e1]
     rw[hc,e1];unfold kZ
     by_cases e2:i=p.length
     ·rw[eY e2,eY e2];exact PY hz
     ·rw[dw e2,dw e2,PY hz];grind
    ·have hl:t<p.length:=by omega
     have hc:(p++[n])[t]=p[t]:=by rw[List.getElem_append_left hl]
     have hkt:=ih.unit t hl k (by omega)
     rw[dw (show ¬ k=t by omega)] at hkt
     rw[hc];unfold kZ iV
     rw[hkt]
     by_cases e2:i=p.length
     ·rw[eY e2,dw (by omega),Rat.div_def];grind
     ·simp only[dw e2]
      by_cases e3:i=k
      ·simp only[eY e3]
       rw[ih.unit t hl p.length (by omega),dw (by omega),dw (by omega),Rat.div_def];grind
      ·simp only[dw e3]
       rw[ih.unit t hl i hi,Rat.div_def];grind
   ·have h1:p.length+1<=i:=by simpa using h1
    show kZ m p.length k n i c=0
    have hsz:∀ c,c<n->iV m p.length k i c=0:=fun c hc=>by
     unfold iV;rw[dw (by omega)]
     split
     ·exact ih.rest p.length (aj _) (by omega) c hc
     ·exact ih.rest i (by omega) h2 c hc
    unfold kZ;rw[dw (by omega)]
    by_cases e1:c=n
    ·rw[e1,PY hz];grind
    ·rw[hsz c (by omega),ih.rest k k1 (by omega) c (by omega),Rat.div_def];grind
   ·rw[ih.sol C x];exact b3m m R p.length k n C x (by omega) (by omega) hz
section
theorem vM {p:List Nat} (h:p.Nodup) {t:Nat} (ht:t<p.length):p.idxOf p[t]=t:=by
 have h1:p.idxOf p[t]<p.length:=List.idxOf_lt_length_iff.mpr (jm ht)
 have h2:p[p.idxOf p[t]]=p[t]:=List.getElem_idxOf h1
 exact(List.getElem_inj h).mp h2
theorem a1K {p:List Nat} {c:Nat} (h:c ∈ p):p.idxOf c<p.length/\p.getD (p.idxOf c) 0=c:=by
 have h1:p.idxOf c<p.length:=List.idxOf_lt_length_iff.mpr h
 refine⟨h1,?_⟩
 rw[ay,dn h1];exact List.getElem_idxOf h1
theorem b3g {n:Nat}:∀ (p:List Nat),p.Nodup->(∀ j ∈ p,j<n)->sm n (fun c=>if c ∈ p then 1 else 0)=(p.length:Nat)
 | [],_,_=>kP n (fun c _=>rfl)
 | a::p,hd,hl=>by
  have h1:=b3g p (List.nodup_cons.mp hd).2 (fun j hj=>hl j (iy _ hj))
  have h2:sm n (fun c=>if c=a then (1:Rat) else 0)=1:=by
   rw[KP a n (hl a (jX ..)) (fun i _ hi=>dw hi),eY rfl]
  have h3:=(List.nodup_cons.mp hd).1
  rw[show (fun c=>if c ∈ a::p then (1:Rat) else 0)=(fun c=>(if c=a then (1:Rat) else 0)+(if c ∈ p then 1 else 0)) from Ah fun c=>by
   by_cases e:c=a
   ·subst e;rw[eY (jX ..),eY rfl,dw h3];grind
   ·by_cases e2:c ∈ p
    ·rw[eY (iy _ e2),dw e,eY e2];grind
    ·rw[dw (by simp[e,e2]),dw e,dw e2];grind,wO,h1,h2,List.length_cons]
  grind
theorem a8i:∀ n,sm n (fun _=>1)=(n:Nat)
 | 0=>rfl
 | n+1=>by show sm n (fun _=>1)+1=_;rw[a8i n];grind
def frees (n:Nat) (p:List Nat):List Nat:=(List.range n).filter (fun c=>decide (c ∉ p))
theorem a8h (p:List Nat):∀ n,sm n (fun c=>if c ∈ p then 0 else 1)=((frees n p).length:Nat)
 | 0=>rfl
 | n+1=>by
  show sm n (fun c=>if c ∈ p then 0 else 1)+(if n ∈ p then 0 else 1)=_
  rw[a8h p n]
  unfold frees
  rw[Ae,List.filter_append,gy]
  by_cases h:n ∈ p
  ·simp[h];grind
  ·simp[h]
theorem GN {n:Nat} {p:List Nat} (hd:p.Nodup) (hl:∀ j ∈ p,j<n):(frees n p).length+p.length=n:=by
 have h1:=b3g p hd hl
 have h2:=a8h p n
 have h3:=a8i n
 have h4:=wO (fun c=>if c ∈ p then (1:Rat) else 0) (fun c=>if c ∈ p then (0:Rat) else 1) n
 rw[show (fun c=>(if c ∈ p then (1:Rat) else 0)+(if c ∈ p then (0:Rat) else 1))=(fun _=>1) from Ah fun c=>by split<;>grind,h1,h2,h3] at h4
 have h5:((n:Nat):Rat)=((p.length+(frees n p).length:Nat):Rat):=by rw[h4];push_cast;rfl
 have:=Rat.natCast_inj.mp h5
 omega
theorem OU {n:Nat} {p:List Nat} {c:Nat}:c ∈ frees n p↔c<n/\c ∉ p:=by unfold frees;simp
section
variable {R n:Nat} {e m:Mt} {p:List Nat}
theorem Ech.row (E:Ech R e n m p) {t:Nat} (ht:t<p.length) (x:Nat->Rat):mv n m x t=x p[t]+sm n (fun c=>if c ∈ p then 0 else m t c*x c):=by
 have hl:=E.le
 have h1:sm n (fun c=>if c ∈ p then m t c*x c else 0)=x p[t]:=by
  rw[KP p[t] n (E.lt _ (jm ht)) (fun c _ hc=>?_),eY (jm ht),E.unit t ht t (by omega),eY rfl]
  ·grind
  ·by_cases h:c ∈ p
   ·rw[eY h]
    have ⟨a1,a2⟩:=a1K h
    have a3:p[p.idxOf c]=c:=List.getElem_idxOf a1
    have:=E.unit (p.idxOf c) a1 t (by omega)
    rw[a3,dw (fun h=>hc (by rw[<-a3];congr 1;exact h.symm))] at this
    rw[this];grind
   ·rw[dw h]
 rw[<-h1,<-wO]
 exact fG n fun c _=>by split<;>grind
theorem Ech.low (E:Ech R e n m p) {i:Nat} (h1:p.length<=i) (h2:i<R) (x:Nat->Rat):mv n m x i=0 :=
 kP n fun c hc=>by rw[E.rest i h1 h2 c hc];grind
def SC (m:Mt) (p:List Nat) (j:Nat):Nat->Rat:=fun c=>if c=j then 1 else if c ∈ p then-m (p.idxOf c) j else 0
theorem a0i (m:Mt) (p:List Nat) (j:Nat):SC m p j j=1:=eY rfl
theorem a9l {m:Mt} {p:List Nat} {j c:Nat} (h:c ∉ p):SC m p j c=if c=j then 1 else 0:=by
 unfold SC;rw[dw h]
theorem b2q (E:Ech R e n m p) {j t:Nat} (ht:t<p.length) (hj:j ∉ p):SC m p j p[t]=- m t j:=by
 unfold SC
 rw[dw (fun h=>hj (by rw[<-h];exact jm ht)),eY (jm ht),vM E.nd ht]
theorem Ech.null (E:Ech R e n m p) {j:Nat} (hn:j<n) (hj:j ∉ p):∀ i,i<R->mv n e (SC m p j) i=0:=by
 refine(E.sol n _).mpr fun i hi=>?_
 by_cases h:i<p.length
 ·rw[E.row h,b2q E h hj,KP j n hn (fun c _ hc=>?_),dw hj,a0i]
  ·grind
  ·split
   ·rfl
   ·rename_i h;rw[a9l h,dw hc];grind
 ·exact E.low (by omega) hi _
theorem Ech.span (E:Ech R e n m p) {x:Nat->Rat} (hx:∀ i,i<R->mv n e x i=0) (hf:∀ c,c<n->c ∉ p->x c=0):∀ c,c<n->x c=0:=by
 intro c hc
 by_cases h:c ∈ p
 ·have ⟨a1,a2⟩:=a1K h
  have a3:p[p.idxOf c]=c:=List.getElem_idxOf a1
  have h1:=(E.sol n x).mp hx (p.idxOf c) (jl a1 E.le)
  rw[E.row a1,a3,kP n (fun c hc=>?_)] at h1
  ·grind
  ·split
   ·rfl
   ·rename_i h;rw[hf c hc h];grind
 ·exact hf c hc h
theorem Ech.full (E:Ech R e n m p) (h:p.length=n) {c:Nat} (hc:c<n):c ∈ p:=by
 have h1:=GN E.nd E.lt
 by_cases hm:c ∈ p
 ·exact hm
 ·have:=List.length_pos_of_mem (OU.mpr ⟨hc,hm⟩);omega
theorem Ech.inj (E:Ech R e n m p):p.length=n↔∀ x,(∀ i,i<R->mv n e x i=0)->∀ c,c<n->x c=0:=by
 constructor
 ·intro h x hx
  exact E.span hx (fun c hc hn=>absurd (E.full h hc) hn)
 ·intro h
  have h1:=GN E.nd E.lt
  rcases qp (frees n p).length with h0|h0
  ·omega
  ·have ⟨h2,h3⟩:=OU.mp (jm h0)
   have:=h _ (E.null h2 h3) _ h2
   rw[a0i] at this;exact absurd this (by decide)
theorem Ech.col (E:Ech R e n m p) {q:Nat} (hq:n<=q) (x:Nat->Rat):(∀ i,i<R->mv n e x i=e i q)↔(∀ i,i<R->mv n m x i=m i q):=by
 have key:∀ (a:Mt) i,mv (q+1) a (fun c=>if c<n then x c else if c=q then -1 else 0) i=mv n a x i-a i q:=fun a i=>by
  unfold mv
  show sm q _+_=_
  obtain⟨d,rfl⟩:∃ d,q=n+d:=⟨q-n,by omega⟩
  rw[a6e,kP d (fun c hc=>?_),fG n (g:=fun k=>a i k*x k) (fun c hc=>by simp only[eY hc])]
  ·simp only[dw (show ¬ n+d<n by omega)];simp only[Ai];grind
  ·simp only[dw (show ¬ n+c<n by omega),dw (show ¬ n+c=n+d by omega)];grind
 have h:=E.sol (q+1) (fun c=>if c<n then x c else if c=q then -1 else 0)
 simp only[key] at h
 constructor
 ·intro h1 i hi;have:=h.mp (fun i hi=>by rw[h1 i hi];grind) i hi;grind
 ·intro h1 i hi;have:=h.mpr (fun i hi=>by rw[h1 i hi];grind) i hi;grind
def xs (m:Mt) (p:List Nat) (q:Nat):Nat->Rat:=fun c=>if c ∈ p then m (p.idxOf c) q else 0
theorem Ech.solve (E:Ech R e n m p) {q:Nat} (hq:n<=q) (h0:∀ i,p.length<=i->i<R->m i q=0):∀ i,i<R->mv n e (xs m p q) i=e i q:=by
 refine(E.col hq _).mpr fun i hi=>?_
 by_cases h:i<p.length
 ·rw[E.row h,kP n (fun c _=>?_)]
  ·unfold xs;rw[eY (jm h),vM E.nd h];grind
  ·split
   ·rfl
   ·rename_i h;unfold xs;rw[dw h];grind
 ·rw[E.low (by omega) hi,h0 i (by omega) hi]
end
theorem TG (R:Nat) (e:Mt):∀ n,(red R e n).2.length<=n/\((red R e n).2.length=n->(red R e n).2=List.range n)
 | 0=>⟨aj _,fun _=>rfl⟩
 | n+1=>by
  have ⟨h1,h2⟩:=TG R e n
  unfold red
  split
  ·exact⟨by omega,fun h=>by omega⟩
  ·refine⟨by simp;omega,fun h=>?_⟩
   simp at h
   show _++_=_
   rw[Ae,h2 h]
theorem a4a (R:Nat) (e:Mt) (n:Nat):red R e (n+1)=if fk (red R e n).1 n (red R e n).2.length (R-(red R e n).2.length)=R then red R e n
 else (kZ (red R e n).1 (red R e n).2.length (fk (red R e n).1 n (red R e n).2.length (R-(red R e n).2.length)) n,(red R e n).2++[n]):=rfl
theorem a3Z {R:Nat} {e:Mt} {n:Nat} (h:(red R e n).2.length=R):∀ k,red R e (n+k)=red R e n
 | 0=>rfl
 | k+1=>by
  have ih:=a3Z h k
  show red R e (n+k+1)=_
  rw[a4a,ih,eY (by rw[h];simp[fk])]
theorem zC {R:Nat} {e f:Mt} {C:Nat} (h:∀ i,i<R->∀ c,c<C->e i c=f i c):∀ n,n<=C->(red R e n).2=(red R f n).2/\∀ i,i<R->∀ c,c<C->(red R e n).1 i c=(red R f n).1 i c
 | 0,_=>⟨rfl,h⟩
 | n+1,hn=>by
  have ⟨h1,h2⟩:=zC h n (by omega)
  have hl:=(iL R e n).le
  have hk:fk (red R e n).1 n (red R e n).2.length (R-(red R e n).2.length)=fk (red R f n).1 n (red R f n).2.length (R-(red R f n).2.length):=by
   rw[h1];exact b0X _ _ (fun i _ hi=>h2 i (by rw[<-h1] at hi;omega) n (by omega))
  have ⟨k1,k2⟩:=ZO (red R e n).1 n (R-(red R e n).2.length) (red R e n).2.length
  unfold red
  rw[<-hk,<-h1]
  generalize fk (red R e n).1 n (red R e n).2.length (R-(red R e n).2.length)=k at *
  by_cases hR:k=R
  ·rw[eY hR,eY hR];exact⟨h1,h2⟩
  ·rw[dw hR,dw hR]
   refine⟨rfl,fun i hi c hc=>?_⟩
   show kZ _ _ _ _ i c=kZ _ _ _ _ i c
   have hsw:∀ c,c<C->iV (red R e n).1 (red R e n).2.length k i c=iV (red R f n).1 (red R e n).2.length k i c:=fun c hc=>by
    unfold iV;split
    ·exact h2 k (by omega) c hc
    ·split
     ·exact h2 _ (by omega) c hc
     ·exact h2 i hi c hc
   unfold kZ
   rw[h2 k (by omega) c hc,h2 k (by omega) n (by omega),hsw c hc,hsw n (by omega)]
theorem a7T {n:Nat} {e:Mt} (h:(red n e n).2.length=n) {q:Nat} (hq:n<=q):∀ i,i<n->mv n e (fun c=>(red n e n).1 c q) i=e i q:=by
 have E:=iL n e n
 have hr:=(TG n e n).2 h
 intro i hi
 rw[<-E.solve hq (fun i h1 h2=>by omega) i hi]
 refine fG n fun c hc=>?_
 unfold xs
 rw[eY (E.full h hc)]
 have h3:(red n e n).2.idxOf c=c:=by
  have a1:c<(red n e n).2.length:=by omega
  have a2:(red n e n).2[c]=c:=by simp[hr]
  have:=vM E.nd a1
  rwa [a2] at this
 rw[h3]
theorem a4u {n:Nat} {a:Mt} (h:∀ x,(∀ i,i<n->mv n a x i=0)->∀ c,c<n->x c=0) (b:Nat->Rat):∃ x,∀ i,i<n->mv n a x i=b i:=by
 have E:=iL n (fun i c=>if c<n then a i c else b i) n
 have hc:∀ x i,mv n (fun i c=>if c<n then a i c else b i) x i=mv n a x i:=fun x i=>fG n fun c hc=>by simp only[eY hc]
 have hl:=E.inj.mpr (fun x hx=>h x (fun i hi=>by rw[<-hc];exact hx i hi))
 refine⟨fun c=>(red n (fun i c=>if c<n then a i c else b i) n).1 c n,fun i hi=>?_⟩
 rw[<-hc,a7T hl (aj n) i hi,dw (by omega)]
end
theorem dZ (m k:Nat) (a b c:Mt):mm m (mm k a b) c=mm k a (mm m b c):=by
 funext i j;unfold mm
 rw[show (fun l=>sm k (fun q=>a i q*b q l)*c l j)=(fun l=>sm k (fun q=>a i q*b q l*c l j)) from Ah fun l=>(a2m _ _ k).symm,a2o]
 refine fG k fun q _=>?_
 rw[<-KO];exact fG m fun l _=>by grind
def ma (a b:Mt):Mt:=fun i j=>a i j+b i j
def ms (a b:Mt):Mt:=fun i j=>a i j-b i j
def zm:Mt:=fun _ _=>0
theorem a7B (n:Nat) (a b c:Mt):mm n (ms a b) c=ms (mm n a c) (mm n b c):=by
 funext i j;unfold mm ms;rw[<-a2n];exact fG n fun k _=>by grind
theorem b6A (n:Nat) (a b c:Mt):mm n (ma a b) c=ma (mm n a c) (mm n b c):=by
 funext i j;unfold mm ma;rw[<-wO];exact fG n fun k _=>by grind
structure Gau (N f:Nat) (n g:Mt):Prop where
 sym:∀ i,i<N->∀ j,j<N->n i j=n j i
 ng:∀ i,i<N->∀ j,j<f->mm N n g i j=0
 rank:(red N g f).2.length=f
 dim:f+(red N n N).2.length=N
def b6B (N:Nat) (n:Mt):Mt:=fun i s=>SC (red N n N).1 (red N n N).2 ((frees N (red N n N).2).getD s 0) i
theorem b1e {l:List Nat} {s:Nat} (h:s<l.length):l.getD s 0=l[s]:=by
 rw[ay,dn h];rfl
theorem yX (n f:Nat) (a b:Mt) (x:Nat->Rat) (i:Nat):mv f (mm n a b) x i=mv n a (mv f b x) i :=
 congrFun (congrFun (dZ f n a b (fun k _=>x k)) i) 0
theorem KI (n:Nat) (a:Mt) (x y:Nat->Rat) (i:Nat):mv n a (fun c=>x c-y c) i=mv n a x i-mv n a y i:=by
 unfold mv;rw[<-a2n];exact fG n fun k _=>by grind
theorem MS {n:Nat} {a:Mt} {x:Nat->Rat} {i:Nat} (h:∀ c,c<n->x c=0):mv n a x i=0:=kP n fun c hc=>by rw[h c hc];grind
theorem Gau.inj {N f:Nat} {n g:Mt} (H:Gau N f n g) {z:Nat->Rat} (h:∀ i,i<N->mv f g z i=0):∀ c,c<f->z c=0:=(iL N g f).inj.mp H.rank z h
theorem Gau.nul {N f:Nat} {n g:Mt} (H:Gau N f n g) (z:Nat->Rat):∀ i,i<N->mv N n (mv f g z) i=0:=fun i hi=>by
 rw[<-yX];exact kP f fun c hc=>by rw[H.ng i hi c hc];grind
theorem Gau.span {N f:Nat} {n g:Mt} (H:Gau N f n g) {x:Nat->Rat} (hx:∀ i,i<N->mv N n x i=0):∃ t,∀ i,i<N->x i=mv f g t i:=by
 have E:=iL N n N
 have hfr:=GN E.nd E.lt
 have hf:(frees N (red N n N).2).length=f:=by have:=H.dim;omega
 have hin:∀ {y:Nat->Rat},(∀ i,i<N->mv N n y i=0)->(∀ s,s<f->y ((frees N (red N n N).2).getD s 0)=0)->∀ c,c<N->y c=0:=fun {y} hy h0=>by
  refine E.span hy fun c hc hp=>?_
  have h1:=OU.mpr ⟨hc,hp⟩
  have ⟨a1,a2⟩:=a1K h1
  rw[hf] at a1;have:=h0 _ a1;rwa [a2] at this
 have ⟨t,ht⟩:=a4u (n:=f) (a:=fun s c=>g ((frees N (red N n N).2).getD s 0) c) (fun z hz=>H.inj (hin (H.nul z) (fun s hs=>hz s hs))) (fun s=>x ((frees N (red N n N).2).getD s 0))
 refine⟨t,fun i hi=>?_⟩
 have:=hin (y:=fun c=>x c-mv f g t c) (fun i hi=>by rw[KI,hx i hi,H.nul t i hi];grind) (fun s hs=>by
  have:mv f g t ((frees N (red N n N).2).getD s 0)=x ((frees N (red N n N).2).getD s 0):=ht s hs
  rw[this];grind) i hi
 grind
theorem b7E {i j:Nat} (h:i≠j):idm i j=0:=dw h
theorem b1C (i:Nat):idm i i=1:=eY rfl
def gV (n:Nat) (a b:Mt):Mt:=fun i j=>if j<n then a i j else b i (j-n)
structure oL (n:Nat) (a x:Mt):Prop where
 r:∀ i,i<n->∀ j,j<n->mm n a x i j=idm i j
 l:∀ i,i<n->∀ j,j<n->mm n x a i j=idm i j
theorem uH {n:Nat} {a:Mt} {x y:Nat->Rat} {i:Nat} (h:∀ c,c<n->x c=y c):mv n a x i=mv n a y i:=fG n fun c hc=>by rw[h c hc]
theorem a0d {n:Nat} {x:Nat->Rat} {i:Nat} (h:i<n):mv n idm x i=x i:=by
 unfold mv;rw[KP i n h (fun k _ hk=>by unfold idm;rw[dw (by omega)];grind)]
 unfold idm;rw[eY rfl];grind
theorem wI {n:Nat} {a b:Mt} {x:Nat->Rat} {i:Nat} (h:∀ c,c<n->a i c=b i c):mv n a x i=mv n b x i:=fG n fun c hc=>by rw[h c hc]
theorem oL.mvl {n:Nat} {a x:Mt} (H:oL n a x) (u:Nat->Rat) {i:Nat} (h:i<n):mv n x (mv n a u) i=u i:=by
 rw[<-yX,wI (b:=idm) (fun c hc=>H.l i h c hc),a0d h]
theorem oL.inj {n:Nat} {a x:Mt} (H:oL n a x) {u:Nat->Rat} (h:∀ i,i<n->mv n a u i=0):∀ c,c<n->u c=0:=fun c hc=>by
 rw[<-H.mvl u hc];exact MS h
theorem TF (n:Nat) (a b:Mt) (x:Nat->Rat) (i:Nat):mv n (gV n a b) x i=mv n a x i:=wI fun _ hc=>eY hc
theorem a1B {n:Nat} {a:Mt} (b:Mt):(red n (gV n a b) n).2.length=n↔(∀ x,(∀ i,i<n->mv n a x i=0)->∀ c,c<n->x c=0):=by
 have:=(iL n (gV n a b) n).inj
 simp only[TF] at this;exact this
theorem inv_of {n:Nat} {a:Mt} (h:(red n (gV n a idm) n).2.length=n):oL n a (fun i j=>(red n (gV n a idm) n).1 i (n+j)):=by
 have hr:∀ i,i<n->∀ j,j<n->mm n a (fun i j=>(red n (gV n a idm) n).1 i (n+j)) i j=idm i j:=fun i hi j hj=>by
  have:=a7T h (Nat.le_add_right n j) i hi
  rw[TF] at this
  show mv n a (fun c=>(red n (gV n a idm) n).1 c (n+j)) i=_
  rw[this];unfold gV;rw[dw (by omega),Af]
 refine⟨hr,fun i hi j hj=>?_⟩
 generalize (fun i j=>(red n (gV n a idm) n).1 i (n+j))=x at hr ⊢
 have h1:=(a1B idm).mp h (fun k=>mm n x a k j-idm k j) (fun k hk=>?_) i hi
 ·grind
 ·rw[KI]
  have h2:mv n a (fun k=>mm n x a k j) k=mm n a (mm n x a) k j:=rfl
  have h3:mv n a (fun k=>idm k j) k=a k j:=by
   unfold mv;rw[KP j n hj (fun q _ hq=>by show a k q*idm q j=0;rw[b7E hq];grind)]
   show a k j*idm j j=_;rw[b1C];grind
  have h4:mm n (mm n a x) a k j=a k j:=by
   rw[show mm n (mm n a x) a k j=mv n (mm n a x) (fun q=>a q j) k from rfl,wI (b:=idm) (fun c hc=>hr k hk c hc),a0d hk]
  rw[h2,h3,<-dZ,h4];grind
def uT (c:Nat) (g b w:Mt):Mt:=ms idm (mm c g (mm c w (tr b)))
def bg (N:Nat) (b g:Mt):Mt:=mm N (tr b) g
def dt (n:Nat) (x y:Nat->Rat):Rat:=sm n fun i=>x i*y i
theorem b0N (n m:Nat) (a:Mt) (x y:Nat->Rat):dt n x (mv m a y)=dt m (mv n (tr a) x) y:=by
 unfold dt mv
 rw[fG n (g:=fun i=>sm m fun k=>x i*(a i k*y k)) (fun i _=>by rw[KO]),a2o]
 refine fG m fun k _=>?_
 rw[<-a2m];exact fG n fun i _=>by show x i*(a i k*y k)=a i k*x i*y k;grind
theorem Gau.gtg {N c:Nat} {n g:Mt} (H:Gau N c n g) {u:Nat->Rat} (h:∀ s,s<c->mv N (tr g) (mv c g u) s=0):∀ s,s<c->u s=0:=by
 refine H.inj (b6F N ?_)
 show dt N (mv c g u) (mv c g u)=0
 rw[b0N];exact kP c fun s hs=>by rw[h s hs];grind
theorem Gau.tng {N c:Nat} {n g:Mt} (H:Gau N c n g) (x:Nat->Rat) {s:Nat} (hs:s<c):mv N (tr g) (mv N n x) s=0:=by
 have h1:mv N (tr g) (mv N n x) s=dt N (fun i=>g i s) (mv N n x):=rfl
 rw[h1,b0N]
 refine kP N fun k hk=>?_
 have h2:=H.ng k hk s hs
 have:mv N (tr n) (fun i=>g i s) k=mm N n g k s:=fG N fun i hi=>by show n i k*g i s=n k i*g i s;rw[H.sym i hi k hk]
 rw[this,h2];grind
def nor (c:Nat) (n g:Mt):Mt:=ma n (mm c g (tr g))
theorem b2i (N c:Nat) (n g:Mt) (x:Nat->Rat) (i:Nat):mv N (nor c n g) x i=mv N n x i+mv c g (mv N (tr g) x) i:=by
 rw[<-yX];exact congrFun (congrFun (b6A N n (mm c g (tr g)) (fun k _=>x k)) i) 0
theorem b7W (n:Nat) (a:Mt) (x y:Nat->Rat) (i:Nat):mv n a (fun c=>x c+y c) i=mv n a x i+mv n a y i:=by
 unfold mv;rw[<-wO];exact fG n fun k _=>by grind
theorem Gau.regular {N c:Nat} {n g:Mt} (H:Gau N c n g) {x:Nat->Rat} (h:∀ i,i<N->mv N (nor c n g) x i=0):∀ i,i<N->x i=0:=by
 have h1:∀ s,s<c->mv N (tr g) x s=0:=H.gtg fun s hs=>by
  have h2:mv N (tr g) (mv N (nor c n g) x) s=0:=MS h
  rw[uH (fun i _=>b2i N c n g x i),b7W,H.tng x hs] at h2;grind
 have h3:∀ i,i<N->mv N n x i=0:=fun i hi=>by
  have:=h i hi;rw[b2i,MS h1] at this;grind
 have ⟨t,ht⟩:=H.span h3
 have h4:=H.gtg (u:=t) fun s hs=>by rw[<-h1 s hs];exact uH fun i hi=>(ht i hi).symm
 intro i hi;rw[ht i hi];exact MS h4
end Go.Proofs.YtgplhbhfdgempaaGreat
