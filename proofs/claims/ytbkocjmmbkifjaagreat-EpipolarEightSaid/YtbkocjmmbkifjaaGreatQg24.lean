/-
  Lemmas for the theorem veight28_holds, part 24 of 32.
-/
import Derived.Test.YtbkocjmmbkifjaaGreatQg23
namespace Go.Proofs.YtbkocjmmbkifjaaGreat
open Go Go.RowKit
theorem Bl:type_of% @Rat.mul_inv_cancel:=@Rat.mul_inv_cancel
set_option maxRecDepth 100000
set_option maxHeartbeats 1000000
set_option linter.unusedVariables false
set_option linter.unusedSimpArgs false
instance c2F (n:Nat):OfNat (Ty.den tI) n:=inferInstanceAs (OfNat Int n)
abbrev LQ':Type:=List Rat
abbrev lv (l:LQ') (i:Nat):Rat:=l.getD i 0
theorem tC {R C:Nat} {f:Nat->Nat->Rat}:(tab R C f).length=R:=by simp[tab]
theorem GN {R C:Nat} {f:Nat->Nat->Rat} {i:Nat} (h:i<R):(tab R C f).getD i []=(List.range C).map (f i):=by
 simp[tab,bn,h]
theorem a3v {R C:Nat} {f:Nat->Nat->Rat} {i j:Nat} (h1:i<R) (h2:j<C):ent (tab R C f) i j=f i j:=by
 show ((tab R C f).getD i []).getD j 0=_
 rw[GN h1];simp[bn,h2]
theorem b0G {R C:Nat} {f:Nat->Nat->Rat}:∀ r ∈ tab R C f,r.length=C:=by
 intro r hr;obtain⟨i,_,rfl⟩:=qm.mp hr;simp
theorem GL {R C:Nat} {f:Nat->Nat->Rat} (r1:1<=R) (r2:R<=64) (c1:1<=C) (c2:C<=64):isM (tab R C f) R C:=⟨tC,b0G,r1,r2,c1,c2⟩
theorem isM.wd {a:MQ} {R C:Nat} (h:isM a R C):wdM a=C:=dB (p:=fun r:List Rat=>r.length=C) h.2.1 (by have:=h.1;have:=h.2.2.1;omega)
theorem isM.row {a:MQ} {R C:Nat} (h:isM a R C) {i:Nat} (hi:i<R):(a.getD i []).length=C:=dB (p:=fun r:List Rat=>r.length=C) h.2.1 (by have:=h.1;omega)
theorem a6u {R C:Nat} {f g:Nat->Nat->Rat} (h:∀ i,i<R->∀ j,j<C->f i j=g i j):tab R C f=tab R C g:=by
 unfold tab
 refine ny fun i hi=>ny fun j hj=>h i (uj.mp hi) j (uj.mp hj)
theorem a9Y {a:List Rat} {C:Nat} (h:a.length=C):(List.range C).map (fun j=>a.getD j 0)=a:=by
 apply Ei
 ·simp[h]
 ·intro j h1 h2;simp[bn,h2]
theorem isM.tab {a:MQ} {R C:Nat} (h:isM a R C):Proofs.YtbkocjmmbkifjaaGreat.tab R C (ent a)=a:=by
 apply Ei
 ·rw[tC,h.1]
 ·intro i h1 h2
  have hi:i<R:=by rw[<-h.1];exact h2
  have e:(Proofs.YtbkocjmmbkifjaaGreat.tab R C (ent a))[i]=(Proofs.YtbkocjmmbkifjaaGreat.tab R C (ent a)).getD i []:=by rw[bn,dw h1];rfl
  rw[e,GN hi]
  have e2:a[i]=a.getD i []:=by rw[bn,dw h2];rfl
  rw[e2];exact a9Y (h.row hi)
theorem jR {R C:Nat} {f:Nat->Nat->Rat} {i:Nat} (h:i<R):(bM R C f).getD i []=(List.range C).map (fun c=>dL (f i c)):=by
 simp[bM,bn,h]
theorem map_set {α:Type} (g:Nat->α) (C c:Nat) (v:α):((List.range C).map g).set c v=(List.range C).map (fun d=>if d=c then v else g d):=by
 apply Ei
 ·simp
 ·intro i h1 h2
  rw[List.getElem_set]
  by_cases e:c=i
  ·subst e;simp
  ·rw[jd e];simp[show ¬ i=c by omega]
theorem a1k {R C:Nat} {f:Nat->Nat->Rat} (i:Nat) (g:Nat->Rat):(bM R C f).set i ((List.range C).map fun c=>dL (g c))=bM R C (fun k=>if k=i then g else f k):=by
 unfold bM;rw[map_set]
 refine ny fun k _=>?_
 by_cases e:k=i
 ·simp only[jl e]
 ·simp only[jd e]
theorem pF {R C:Nat} {f g:Nat->Nat->Rat} (h:∀ i,i<R->∀ j,j<C->f i j=g i j):bM R C f=bM R C g:=by
 unfold bM
 refine ny fun i hi=>ny fun j hj=>?_
 rw[h i (uj.mp hi) j (uj.mp hj)]
theorem iR {α:Type} {g:Nat->α} {C c:Nat} {d:α} (h:c<C):((List.range C).map g).getD c d=g c:=by
 simp[bn,h]
def szM (a:MQ) (K:Nat):Prop:=∀ i,i<a.length->∀ j,j<wdM a->rsz (ent a i j)<=K
def okM (a:MQ):Prop:=isM a a.length (wdM a)/\szM a 100000000
abbrev liftM (a:MQ):MR:=List.map (fun xs=>List.map (fun x=>dL x) xs) a
theorem a5H (a:MQ):(liftM a).length=a.length:=by simp
theorem a5I (a:MQ) (i:Nat):(liftM a).getD i []=(a.getD i []).map dL:=by
 simp[bn]
 cases a[i]?<;>rfl
theorem a8I (a:MQ):wdM (liftM a)=wdM a:=by show ((liftM a).getD 0 []).length=(a.getD 0 []).length;rw[a5I,ru]
theorem okM.ent {a:MQ} (h:okM a) {r:List Rat} (hr:r ∈ a) {x:Rat} (hx:x ∈ r):rsz x<=100000000:=by
 obtain⟨i,hi,rfl⟩:=Cm hr
 obtain⟨j,hj,rfl⟩:=Cm hx
 have h1:=h.1.2.1 _ (wz hi)
 have h2:=h.2 i hi j (by rw[<-h1];exact hj)
 have e:Proofs.YtbkocjmmbkifjaaGreat.ent a i j=a[i][j]:=by
  show (a.getD i []).getD j 0=_
  rw[show a.getD i []=a[i] by rw[bn,dw hi];rfl,bn,dw hj];rfl
 rwa [e] at h2
theorem a5Z (x:Rat):(dL x).n<=rsz x/\(dL x).m<=rsz x:=⟨Nat.le_max_left _ _,Nat.le_max_right _ _⟩
theorem okM.short {a:MQ} (h:okM a):YO (liftM a):=by
 refine⟨by have:=h.1.2.2.2.1;simp;omega,fun r hr=>?_⟩
 obtain⟨s,hs,rfl⟩:=qm.mp hr
 refine⟨by have:=h.1.2.1 s hs;have:=h.1.2.2.2.2.2;simp;omega,fun q hq=>?_⟩
 obtain⟨x,hx,rfl⟩:=qm.mp hq
 have h1:=h.ent hs hx
 have ⟨h2,h3⟩:=a5Z x
 exact⟨by omega,by omega⟩
theorem okM.chk {a:MQ} (h:okM a):SC (liftM a)=0:=by
 obtain⟨⟨h1,h2,h3,h4,h5,h6⟩,_⟩:=h
 have hb:(liftM a).any (badR (wdM a))=false:=by
  refine Ec.mpr fun r hr=>?_
  obtain⟨s,hs,rfl⟩:=qm.mp hr
  unfold badR
  have:(List.map (fun x=>dL x) s).any (fun q=>!q.ok)=false:=Ec.mpr fun q hq=>by
   obtain⟨x,_,rfl⟩:=qm.mp hq;simp[dL]
  rw[this,ru,h2 s hs];simp
 unfold SC
 rw[a5H,a8I,hb,jl ⟨h3,h4,h5,h6,rfl⟩]
def QB (m n:Int) (f:Nat->Nat->Rat) (P:Int->Int->Prop) (Fin:MR->Prop):Prop:=(m=m/\0<=m/\m<=1000000000/\True)/\(asT Int 0=0/\List.replicate m.toNat (aG aH)=List.replicate (Int.toNat m-0) (aG aH)/\True)/\∀ (i:{ k:Nat // k<=Int.toNat m }),asT Bool true=true/\ifB (decide (aB (aA i)<aB (aN none (List.replicate m.toNat (aG aH))))) ((n=n/\0<=n/\n<=1000000000/\0<=aB (aA i)/\aB (aA i)<aB (aN none (bM (aA i) n.toNat f++List.replicate (Int.toNat m-aA i) (aG aH)))/\Int.toNat (aB (aA i))<aN none (bM (aA i) n.toNat f++List.replicate (Int.toNat m-aA i) (aG aH))/\True)/\(0<=aB (aA i)/\aB (aA i)<aB (aN (some (List.set (bJ none (bM (aA i) n.toNat f++List.replicate (Int.toNat m-aA i) (aG aH))) (aB (aA i)).toNat (bM (aA i) n.toNat f++List.replicate (Int.toNat m-aA i) (aG aH)).length)) (bM (aA i) n.toNat f++List.replicate (Int.toNat m-aA i) (aG aH)++List.replicate n.toNat { ok:=false,x:=0,g:=aG Nat,h:=aG Nat }::aG (List aH)))/\Int.toNat (aB (aA i))<aN (some (List.set (bJ none (bM (aA i) n.toNat f++List.replicate (Int.toNat m-aA i) (aG aH))) (aB (aA i)).toNat (bM (aA i) n.toNat f++List.replicate (Int.toNat m-aA i) (aG aH)).length)) (bM (aA i) n.toNat f++List.replicate (Int.toNat m-aA i) (aG aH)++List.replicate n.toNat { ok:=false,x:=0,g:=aG Nat,h:=aG Nat }::aG (List aH))/\True)/\(asT Int 0=0/\List.Nodup (List.set (bJ none (bM (aA i) n.toNat f++List.replicate (Int.toNat m-aA i) (aG aH))) (aB (aA i)).toNat (bM (aA i) n.toNat f++List.replicate (Int.toNat m-aA i) (aG aH)).length)/\List.map (fun(i_1:Nat)=>List.getD (bM (aA i) n.toNat f++List.replicate (Int.toNat m-aA i) (aG aH)++List.replicate n.toNat { ok:=false,x:=0,g:=aG Nat,h:=aG Nat }::aG (List aH)) i_1 (aG aH)) (List.set (bJ none (bM (aA i) n.toNat f++List.replicate (Int.toNat m-aA i) (aG aH))) (aB (aA i)).toNat (bM (aA i) n.toNat f++List.replicate (Int.toNat m-aA i) (aG aH)).length)=bM (aA i) n.toNat f++(List.map (fun(j:Nat)=>dL (f (aA i) j)) (List.range 0)++List.replicate (Int.toNat n-0) bF)::aG (List aH)++List.replicate (Int.toNat m-aA i-1) (aG aH)/\True)/\∀ (i_1:{ q:Nat // q<=Int.toNat n }),asT Bool true=true/\ifB (decide (aB (aA i_1)<aB (rowAt (bM (aA i) n.toNat f++List.replicate (Int.toNat m-aA i) (aG aH)++List.replicate n.toNat { ok:=false,x:=0,g:=aG Nat,h:=aG Nat }::aG (List aH)) (nameAt (some (List.set (bJ none (bM (aA i) n.toNat f++List.replicate (Int.toNat m-aA i) (aG aH))) (aB (aA i)).toNat (bM (aA i) n.toNat f++List.replicate (Int.toNat m-aA i) (aG aH)).length)) (aB (aA i)).toNat)).length)) ((0<=aB (aA i)/\aB (aA i)<aB (aN none (bM (aA i) n.toNat f++(List.map (fun(j:Nat)=>dL (f (aA i) j)) (List.range (aA i_1))++List.replicate (Int.toNat n-aA i_1) bF)::aG (List aH)++List.replicate (Int.toNat m-aA i-1) (aG aH)))/\Int.toNat (aB (aA i))<aN none (bM (aA i) n.toNat f++(List.map (fun(j:Nat)=>dL (f (aA i) j)) (List.range (aA i_1))++List.replicate (Int.toNat n-aA i_1) bF)::aG (List aH)++List.replicate (Int.toNat m-aA i-1) (aG aH))/\P (aB (aA i)) (aB (aA i_1))/\0<=aB (aA i_1)/\aB (aA i_1)<aB (rowAt (bM (aA i) n.toNat f++(List.map (fun(j:Nat)=>dL (f (aA i) j)) (List.range (aA i_1))++List.replicate (Int.toNat n-aA i_1) bF)::aG (List aH)++List.replicate (Int.toNat m-aA i-1) (aG aH)) (nameAt none (aB (aA i)).toNat)).length/\Int.toNat (aB (aA i_1))<List.length (rowAt (bM (aA i) n.toNat f++(List.map (fun(j:Nat)=>dL (f (aA i) j)) (List.range (aA i_1))++List.replicate (Int.toNat n-aA i_1) bF)::aG (List aH)++List.replicate (Int.toNat m-aA i-1) (aG aH)) (nameAt none (aB (aA i)).toNat))/\True)/\∃ (i':{ q:Nat // q<=Int.toNat n }),Int.toNat n-aA i'<Int.toNat n-aA i_1/\IntKind.wrap IntKind.i64 (aB (aA i_1)+1)=aB (aA i')/\List.set (bM (aA i) n.toNat f++(List.map (fun(j:Nat)=>dL (f (aA i) j)) (List.range (aA i_1))++List.replicate (Int.toNat n-aA i_1) bF)::aG (List aH)++List.replicate (Int.toNat m-aA i-1) (aG aH)) (nameAt none (aB (aA i)).toNat) (List.set (rowAt (bM (aA i) n.toNat f++(List.map (fun(j:Nat)=>dL (f (aA i) j)) (List.range (aA i_1))++List.replicate (Int.toNat n-aA i_1) bF)::aG (List aH)++List.replicate (Int.toNat m-aA i-1) (aG aH)) (nameAt none (aB (aA i)).toNat)) (aB (aA i_1)).toNat (dL (f (aB (aA i)).toNat (aB (aA i_1)).toNat)))=bM (aA i) n.toNat f++(List.map (fun(j:Nat)=>dL (f (aA i) j)) (List.range (aA i'))++List.replicate (Int.toNat n-aA i') bF)::aG (List aH)++List.replicate (Int.toNat m-aA i-1) (aG aH)/\True) (∃ (i':{ k:Nat // k<=Int.toNat m }),Int.toNat m-aA i'<Int.toNat m-aA i/\IntKind.wrap IntKind.i64 (aB (aA i)+1)=aB (aA i')/\bM (aA i) n.toNat f++(List.map (fun(j:Nat)=>dL (f (aA i) j)) (List.range (aA i_1))++List.replicate (Int.toNat n-aA i_1) bF)::aG (List aH)++List.replicate (Int.toNat m-aA i-1) (aG aH)=bM (aA i') n.toNat f++List.replicate (Int.toNat m-aA i') (aG aH)/\True)) (Fin (bM (aA i) n.toNat f++List.replicate (Int.toNat m-aA i) (aG aH)))
theorem JF {R C:Nat} {f:Nat->Nat->Rat} {P:Int->Int->Prop} {Fin:MR->Prop} (r2:R<=1000) (c2:C<=1000) (hP:∀ i j:Nat,i<R->j<C->P i j) (hF:Fin (bM R C f)):QB R C f P Fin:=by
 unfold QB
 have hZ:(⟨false,0,[],[]⟩:aH)=bF:=rfl
 dsimp only[aB,asT,aA,aG] at *
 simp only[hZ,Int.toNat_natCast,aF,ak,ah,jo,jm]
 have hX:∀ k,k<=R->(bM k C f++List.replicate (R-k) ([]:List aH)).length=R:=fun k hk=>by rw[jg,iU,yh];omega
 have hY:∀ k (Z:List aH),k<R->(bM k C f++[Z]++List.replicate (R-k-1) ([]:List aH)).length=R:=fun k Z hk=>by rw[jg,jg,iU,yh];simp;omega
 refine⟨by omega,by rw[Nat.sub_zero],fun i=>⟨fun h1=>?_,fun h1=>?_⟩⟩
 ·have hi:i.1<R:=by simpa [aN] using h1
  simp only[aN,nameAt,bJ,hX i.1 i.2,hY i.1 _ hi,iq,dh]
  have e1:((List.range R).set i.1 R).getD i.1 0=R:=by simp[bn,hi]
  have e2:rowAt (bM i.1 C f++List.replicate (R-i.1) []++[List.replicate C bF]) R=List.replicate C bF:=by
   have:=a3Q (T:=[]) (hX i.1 i.2) (List.replicate C bF);rwa [Aw] at this
  have e3:=a8U (bM i.1 C f++List.replicate (R-i.1) []) (List.replicate C bF) (k:=i.1) (by rw[hX i.1 i.2];exact hi)
  rw[hX i.1 i.2,a8V (iU _ _ _) hi] at e3
  rw[e1,e2,e3,yh]
  refine⟨⟨by omega,by omega,by omega,by omega,hi⟩,⟨by omega,by omega,hi⟩,⟨b2d R i.1,by simp⟩,fun q=>⟨fun h2=>?_,fun h2=>?_⟩⟩
  ·have hq:q.1<C:=by omega
   have hl:(List.map (fun j=>dL (f i.1 j)) (List.range q.1)++List.replicate (C-q.1) bF).length=C:=by simp;omega
   rw[a3Q (iU _ _ _),hl]
   refine⟨⟨by omega,by omega,hi,hP _ _ hi hq,by omega,by omega,hq⟩,⟨q.1+1,by omega⟩,by simp only;omega,by rw[aS (by omega) (by omega)];rfl,?_⟩
   rw[a8X (iU _ _ _),a8W (fun j=>dL (f i.1 j)) bF hq]
  ·have hq:q.1=C:=by have:=q.2;omega
   refine⟨⟨i.1+1,by omega⟩,by simp only;omega,by rw[aS (by omega) (by omega)];rfl,?_⟩
   rw[hq,Nat.sub_self,List.replicate_zero,Aw,a6t,Nat.sub_sub]
 ·have hi:i.1=R:=by have:=i.2;simp only[aN,yh] at h1;omega
  rw[hi,Nat.sub_self,List.replicate_zero,Aw]
  exact hF
def XV (m n:Int) (f:Nat->Nat->Rat):List Ann:=[.inv {k:Nat // k<=m.toNat} (fun k=>[(14,.val tI (k.1:Int))]) (fun k=>[(11,.mat 39 47 tR none (bM k.1 n.toNat f++List.replicate (m.toNat-k.1) []) 0)]) (fun k=>m.toNat-k.1) ⟨0,by omega⟩ (fun k=>[
 .inv {q:Nat // q<=n.toNat} (fun q=>[(27,.val tI (q.1:Int)),(20,.any),(21,.any),(24,.any),(25,.any)]) (fun q=>[(11,.mat 39 47 tR none (bM k.1 n.toNat f++[(List.range q.1).map (fun j=>dL (f k.1 j))++List.replicate (n.toNat-q.1) bF]++List.replicate (m.toNat-k.1-1) []) 0)]) (fun q=>n.toNat-q.1) ⟨0,by omega⟩ (fun _=>[])])]
abbrev LKm:LK:=.mat 39 47 tR
noncomputable def b1a (T:List Ty) (ok:(nest T).den->Int->Int->Prop) (g:(nest T).den->Nat->Nat->Rat):Ctr:=⟨tI::tI::T,[tQ],fun x=>ok x.2.2 x.1 x.2.1,fun x=>(g x.2.2 (show Int from x.1).toNat (show Int from x.2.1).toNat,())⟩
def b4a (T:List Ty) (ok:(nest T).den->Int->Int->Prop) (x:(nest [tI,tI,nest T]).den):Prop:=∃ R C:Nat,(show Int from x.1)=R/\(show Int from x.2.1)=C/\R<=1000/\C<=1000/\∀ i j:Nat,i<R->j<C->ok x.2.2.1 i j
noncomputable def a9b (F:FuncId) (T:List Ty) (ok:(nest T).den->Int->Int->Prop) (g:(nest T).den->Nat->Nat->Rat):kR:=.mk (dec:=fun x=>⟨Classical.propDecidable _⟩) LKm [tI,tI,.clo F (nest T)] (fun x=>b4a T ok x) (fun x=>bM (show Int from x.1).toNat (show Int from x.2.1).toNat (g x.2.2.1))
def sm:Nat->(Nat->Rat)->Rat
 | 0,_=>0
 | n+1,f=>sm n f+f n
theorem jF {f g:Nat->Rat}:∀ n,(∀ i,i<n->f i=g i)->sm n f=sm n g
 | 0,_=>rfl
 | n+1,h=>by show sm n f+f n=sm n g+g n;rw[jF n (fun i hi=>h i (by omega)),h n (by omega)]
theorem pI {f:Nat->Rat}:∀ n,(∀ i,i<n->f i=0)->sm n f=0
 | 0,_=>rfl
 | n+1,h=>by show sm n f+f n=0;rw[pI n (fun i hi=>h i (by omega)),h n (by omega)];grind
theorem JM (f g:Nat->Rat):∀ n,sm n (fun i=>f i+g i)=sm n f+sm n g
 | 0=>by show (0:Rat)=0+0;grind
 | n+1=>by show sm n _+(f n+g n)=(sm n f+f n)+(sm n g+g n);rw[JM f g n];grind
theorem DI (k:Rat) (f:Nat->Rat):∀ n,sm n (fun i=>k*f i)=k*sm n f
 | 0=>by show (0:Rat)=k*0;grind
 | n+1=>by show sm n _+k*f n=k*(sm n f+f n);rw[DI k f n];grind
theorem a4H (k:Rat) (f:Nat->Rat) (n:Nat):sm n (fun i=>f i*k)=sm n f*k:=by
 rw[show (fun i=>f i*k)=(fun i=>k*f i) from funext fun i=>by grind,DI];grind
theorem b0r (f g:Nat->Rat) (n:Nat):sm n (fun i=>f i-g i)=sm n f-sm n g:=by
 rw[show (fun i=>f i-g i)=(fun i=>f i+(-1)*g i) from funext fun i=>by grind,JM f (fun i=>(-1)*g i),DI];grind
theorem a4J (f:Nat->Nat->Rat) (m:Nat):∀ n,sm n (fun i=>sm m (fun j=>f i j))=sm m (fun j=>sm n (fun i=>f i j))
 | 0=>(pI m (fun j _=>rfl)).symm
 | n+1=>by
  show sm n (fun i=>sm m (fun j=>f i j))+sm m (fun j=>f n j)=sm m (fun j=>sm n (fun i=>f i j)+f n j)
  rw[a4J f m n,JM]
theorem RF {f:Nat->Rat} (k:Nat):∀ n,k<n->(∀ i,i<n->i≠k->f i=0)->sm n f=f k
 | 0,h,_=>by omega
 | n+1,h,hz=>by
  show sm n f+f n=f k
  by_cases e:k=n
  ·rw[pI n (fun i hi=>hz i (by omega) (by omega)),e];grind
  ·rw[RF k n (by omega) (fun i hi hk=>hz i (by omega) hk),hz n (by omega) (by omega)];grind
theorem JJ {x:Rat} (h:x≠0):x / x=1:=by rw[Rat.div_def,Bl x h]
theorem b0p (f:Nat->Rat) (m:Nat):∀ n,sm (m+n) f=sm m f+sm n (fun i=>f (m+i))
 | 0=>by show sm m f=sm m f+0;grind
 | n+1=>by show sm (m+n) f+f (m+n)=sm m f+(sm n (fun i=>f (m+i))+f (m+n));rw[b0p f m n];grind
abbrev Mt:=Nat->Nat->Rat
def mm (n:Nat) (a b:Mt):Mt:=fun i j=>sm n fun k=>a i k*b k j
def mv (n:Nat) (a:Mt) (x:Nat->Rat):Nat->Rat:=fun i=>sm n fun k=>a i k*x k
def tr (a:Mt):Mt:=fun i j=>a j i
def idm:Mt:=fun i j=>if i=j then 1 else 0
def fk (e:Mt) (j:Nat):Nat->Nat->Nat
 | r,0=>r
 | r,n+1=>if e r j=0 then fk e j (r+1) n else r
theorem EI (e:Mt) (j:Nat):∀ n r,r<=fk e j r n/\fk e j r n<=r+n
 | 0,r=>⟨ay _,ay _⟩
 | n+1,r=>by
  have:=EI e j n (r+1)
  unfold fk;split<;>omega
theorem LM (e:Mt) (j:Nat):∀ n r i,r<=i->i<fk e j r n->e i j=0
 | 0,r,i,h1,h2=>by unfold fk at h2;omega
 | n+1,r,i,h1,h2=>by
  unfold fk at h2;split at h2
  ·rename_i h0
   by_cases h:i=r
   ·rw[h];exact h0
   ·exact LM e j n (r+1) i (by omega) h2
  ·omega
theorem OH (e:Mt) (j:Nat):∀ n r,fk e j r n<r+n->e (fk e j r n) j≠0
 | 0,r,h=>by unfold fk at h;omega
 | n+1,r,h=>by
  unfold fk at h ⊢;split at h
  ·rename_i h0;rw[jl h0];exact OH e j n (r+1) (by omega)
  ·rename_i h0;rw[jd h0];exact h0
theorem a3z (e:Mt) (j r n k:Nat) (h1:r<=k) (h2:k<=r+n) (hz:∀ i,r<=i->i<k->e i j=0) (hn:k<r+n->e k j≠0):fk e j r n=k:=by
 have ⟨a1,a2⟩:=EI e j n r
 rcases Nat.lt_trichotomy (fk e j r n) k with h|h|h
 ·exact absurd (hz _ a1 h) (OH e j n r (by omega))
 ·exact h
 ·exact absurd (LM e j n r k h1 h) (hn (by omega))
theorem a7C {e f:Mt} {j:Nat} (n r:Nat) (h:∀ i,r<=i->i<r+n->e i j=f i j):fk e j r n=fk f j r n:=by
 have ⟨a1,a2⟩:=EI f j n r
 refine a3z e j r n _ a1 a2 (fun i h1 h2=>?_) (fun h1=>?_)
 ·rw[h i h1 (by omega)];exact LM f j n r i h1 h2
 ·rw[h _ a1 h1];exact OH f j n r h1
def gI (e:Mt) (r k:Nat):Mt:=fun i=>if i=r then e k else if i=k then e r else e i
def iH (e:Mt) (r k j:Nat):Mt:=fun i c=>if i=r then e k c / e k j else gI e r k i c-gI e r k i j*(e k c / e k j)
def red (R:Nat) (e:Mt):Nat->Mt × List Nat
 | 0=>(e,[])
 | n+1 =>
  if fk (red R e n).1 n (red R e n).2.length (R-(red R e n).2.length)=R then red R e n
  else (iH (red R e n).1 (red R e n).2.length (fk (red R e n).1 n (red R e n).2.length (R-(red R e n).2.length)) n,(red R e n).2++[n])
structure Ech (R:Nat) (e:Mt) (n:Nat) (m:Mt) (p:List Nat):Prop where
 le:p.length<=R
 lt:∀ j ∈ p,j<n
 nd:p.Nodup
 unit:∀ t (h:t<p.length) i,i<R->m i p[t]=if i=t then 1 else 0
 rest:∀ i,p.length<=i->i<R->∀ c,c<n->m i c=0
 sol:∀ C (x:Nat->Rat),(∀ i,i<R->mv C e x i=0)↔(∀ i,i<R->mv C m x i=0)
theorem YP (m:Mt) (r k j C:Nat) (x:Nat->Rat) (i:Nat):mv C (iH m r k j) x i=if i=r then mv C m x k / m k j else mv C (gI m r k) x i-gI m r k i j*(mv C m x k / m k j):=by
 unfold mv iH
 by_cases h:i=r
 ·simp only[jl h]
  rw[show (fun c=>m k c / m k j*x c)=(fun c=>m k c*x c*(m k j)⁻¹) from funext fun c=>by rw[Rat.div_def];grind,a4H,Rat.div_def]
 ·simp only[jd h]
  rw[show (fun c=>(gI m r k i c-gI m r k i j*(m k c / m k j))*x c)=(fun c=>gI m r k i c*x c-(gI m r k i j*(m k j)⁻¹)*(m k c*x c)) from funext fun c=>by rw[Rat.div_def];grind,b0r (fun c=>gI m r k i c*x c) (fun c=>(gI m r k i j*(m k j)⁻¹)*(m k c*x c)),DI,Rat.div_def];grind
theorem b0u (m:Mt) (R r k j C:Nat) (x:Nat->Rat) (hr:r<R) (hk:k<R) (hz:m k j≠0):(∀ i,i<R->mv C m x i=0)↔(∀ i,i<R->mv C (iH m r k j) x i=0):=by
 have hsw:∀ i,mv C (gI m r k) x i=if i=r then mv C m x k else if i=k then mv C m x r else mv C m x i:=fun i=>by
  unfold mv gI;by_cases h1:i=r
  ·simp only[jl h1]
  ·by_cases h2:i=k
   ·simp only[jd h1,jl h2]
   ·simp only[jd h1,jd h2]
 constructor
 ·intro h i hi
  rw[YP,hsw,h k hk]
  split
  ·rw[Rat.div_def];grind
  ·have:=h i hi;have:=h r hr;rw[Rat.div_def];split<;>grind
 ·intro h
  have h1:=h r hr
  rw[YP,jl rfl,Rat.div_def] at h1
  have hkz:mv C m x k=0:=by
   have:mv C m x k=mv C m x k*(m k j)⁻¹*m k j:=by rw[Rat.mul_assoc,Rat.inv_mul_cancel _ hz];grind
   rw[this,h1];grind
  have hA:∀ i,i<R->i≠r->(if i=k then mv C m x r else mv C m x i)=0:=fun i hi hir=>by
   have:=h i hi
   rw[YP,jd hir,hsw,jd hir,hkz,Rat.div_def] at this
   grind
  intro i hi
  by_cases e1:i=k
  ·rw[e1];exact hkz
  ·by_cases e2:i=r
   ·have:=hA k hk (by omega)
    rw[jl rfl] at this;rw[e2];exact this
   ·have:=hA i hi e2
    rw[jd e1] at this;exact this
theorem fH (R:Nat) (e:Mt):∀ n,Ech R e n (red R e n).1 (red R e n).2
 | 0=>⟨uw _,fun j h=>(nomatch h),List.nodup_nil,fun t h=>absurd h (Nat.not_lt_zero _),fun i _ _ c h=>absurd h (Nat.not_lt_zero _),fun _ _=>Iff.rfl⟩
 | n+1=>by
  have ih:=fH R e n
  rw[show red R e (n+1)=(if fk (red R e n).1 n (red R e n).2.length (R-(red R e n).2.length)=R then ((red R e n).1,(red R e n).2) else (iH (red R e n).1 (red R e n).2.length (fk (red R e n).1 n (red R e n).2.length (R-(red R e n).2.length)) n,(red R e n).2++[n])) from rfl]
  generalize (red R e n).1=m at *
  generalize (red R e n).2=p at *
  generalize hk:fk m n p.length (R-p.length)=k
  have ⟨k1,k2⟩:=EI m n (R-p.length) p.length
  have k3:=LM m n (R-p.length) p.length
  have k4:=OH m n (R-p.length) p.length
  rw[hk] at k1 k2 k3 k4
  have hle:=ih.le
  by_cases hR:k=R
  ·rw[jl hR]
   exact⟨ih.le,fun j hj=>Nat.lt_succ_of_lt (ih.lt j hj),ih.nd,ih.unit,fun i h1 h2 c hc=>by
    by_cases e1:c=n
    ·rw[e1];exact k3 i h1 (by omega)
    ·exact ih.rest i h1 h2 c (by omega),ih.sol⟩
  ·rw[jd hR]
   have hz:m k n≠0:=k4 (by omega)
   refine⟨by simp;omega,fun j hj=>?_,?_,fun t ht i hi=>?_,fun i h1 h2 c hc=>?_,fun C x=>?_⟩
   ·rcases ug.mp hj with h|h
    ·exact Nat.lt_succ_of_lt (ih.lt j h)
    ·rw[tq.mp h];omega
   ·refine List.nodup_append.mpr ⟨ih.nd,by simp,fun a ha b hb=>?_⟩
    have:=ih.lt a ha;rw[tq.mp hb];omega
   ·have ht:t<p.length+1:=by simpa using ht
    show iH m p.length k n i (p++[n])[t]=_
    by_cases e1:t=p.length
    ·have hc:(p++[n])[t]=n:=by simp[e1]
     rw[hc,e1];unfold iH
     by_cases e2:i=p.length
     ·rw[jl e2,jl e2];exact JJ hz
     ·rw[jd e2,jd e2,JJ hz];grind
    ·have hl:t<p.length:=by omega
     have hc:(p++[n])[t]=p[t]:=by rw[List.getElem_append_left hl]
     have hkt:=ih.unit t hl k (by omega)
     rw[jd (show ¬ k=t by omega)] at hkt
     rw[hc];unfold iH gI
     rw[hkt]
     by_cases e2:i=p.length
     ·rw[jl e2,jd (by omega),Rat.div_def];grind
     ·simp only[jd e2]
      by_cases e3:i=k
      ·simp only[jl e3]
       rw[ih.unit t hl p.length (by omega),jd (by omega),jd (by omega),Rat.div_def];grind
      ·simp only[jd e3]
       rw[ih.unit t hl i hi,Rat.div_def];grind
   ·have h1:p.length+1<=i:=by simpa using h1
    show iH m p.length k n i c=0
    have hsz:∀ c,c<n->gI m p.length k i c=0:=fun c hc=>by
     unfold gI;rw[jd (by omega)]
     split
     ·exact ih.rest p.length (ay _) (by omega) c hc
     ·exact ih.rest i (by omega) h2 c hc
    unfold iH;rw[jd (by omega)]
    by_cases e1:c=n
    ·rw[e1,JJ hz];grind
    ·rw[hsz c (by omega),ih.rest k k1 (by omega) c (by omega),Rat.div_def];grind
   ·rw[ih.sol C x];exact b0u m R p.length k n C x (by omega) (by omega) hz
section
theorem qR {p:List Nat} (h:p.Nodup) {t:Nat} (ht:t<p.length):p.idxOf p[t]=t:=by
 have h1:p.idxOf p[t]<p.length:=List.idxOf_lt_length_iff.mpr (wz ht)
 have h2:p[p.idxOf p[t]]=p[t]:=List.getElem_idxOf h1
 exact(List.getElem_inj h).mp h2
theorem FH {p:List Nat} {c:Nat} (h:c ∈ p):p.idxOf c<p.length/\p.getD (p.idxOf c) 0=c:=by
 have h1:p.idxOf c<p.length:=List.idxOf_lt_length_iff.mpr h
 refine⟨h1,?_⟩
 rw[bn,dw h1];exact List.getElem_idxOf h1
theorem b0q {n:Nat}:∀ (p:List Nat),p.Nodup->(∀ j ∈ p,j<n)->sm n (fun c=>if c ∈ p then 1 else 0)=(p.length:Nat)
 | [],_,_=>pI n (fun c _=>rfl)
 | a::p,hd,hl=>by
  have h1:=b0q p (List.nodup_cons.mp hd).2 (fun j hj=>hl j (jw _ hj))
  have h2:sm n (fun c=>if c=a then (1:Rat) else 0)=1:=by
   rw[RF a n (hl a (lg ..)) (fun i _ hi=>jd hi),jl rfl]
  have h3:=(List.nodup_cons.mp hd).1
  rw[show (fun c=>if c ∈ a::p then (1:Rat) else 0)=(fun c=>(if c=a then (1:Rat) else 0)+(if c ∈ p then 1 else 0)) from funext fun c=>by
   by_cases e:c=a
   ·subst e;rw[jl (lg ..),jl rfl,jd h3];grind
   ·by_cases e2:c ∈ p
    ·rw[jl (jw _ e2),jd e,jl e2];grind
    ·rw[jd (by simp[e,e2]),jd e,jd e2];grind,JM,h1,h2,List.length_cons]
  grind
theorem a4I:∀ n,sm n (fun _=>1)=(n:Nat)
 | 0=>rfl
 | n+1=>by show sm n (fun _=>1)+1=_;rw[a4I n];grind
def frees (n:Nat) (p:List Nat):List Nat:=(List.range n).filter (fun c=>decide (c ∉ p))
theorem a4G (p:List Nat):∀ n,sm n (fun c=>if c ∈ p then 0 else 1)=((frees n p).length:Nat)
 | 0=>rfl
 | n+1=>by
  show sm n (fun c=>if c ∈ p then 0 else 1)+(if n ∈ p then 0 else 1)=_
  rw[a4G p n]
  unfold frees
  rw[Ba,List.filter_append,jg]
  by_cases h:n ∈ p
  ·simp[h];grind
  ·simp[h]
theorem IW {n:Nat} {p:List Nat} (hd:p.Nodup) (hl:∀ j ∈ p,j<n):(frees n p).length+p.length=n:=by
 have h1:=b0q p hd hl
 have h2:=a4G p n
 have h3:=a4I n
 have h4:=JM (fun c=>if c ∈ p then (1:Rat) else 0) (fun c=>if c ∈ p then (0:Rat) else 1) n
 rw[show (fun c=>(if c ∈ p then (1:Rat) else 0)+(if c ∈ p then (0:Rat) else 1))=(fun _=>1) from funext fun c=>by split<;>grind,h1,h2,h3] at h4
 have h5:((n:Nat):Rat)=((p.length+(frees n p).length:Nat):Rat):=by rw[h4];push_cast;rfl
 have:=Rat.natCast_inj.mp h5
 omega
theorem qQ {n:Nat} {p:List Nat} {c:Nat}:c ∈ frees n p↔c<n/\c ∉ p:=by unfold frees;simp
section
variable {R n:Nat} {e m:Mt} {p:List Nat}
theorem Ech.row (E:Ech R e n m p) {t:Nat} (ht:t<p.length) (x:Nat->Rat):mv n m x t=x p[t]+sm n (fun c=>if c ∈ p then 0 else m t c*x c):=by
 have hl:=E.le
 have h1:sm n (fun c=>if c ∈ p then m t c*x c else 0)=x p[t]:=by
  rw[RF p[t] n (E.lt _ (wz ht)) (fun c _ hc=>?_),jl (wz ht),E.unit t ht t (by omega),jl rfl]
  ·grind
  ·by_cases h:c ∈ p
   ·rw[jl h]
    have ⟨a1,a2⟩:=FH h
    have a3:p[p.idxOf c]=c:=List.getElem_idxOf a1
    have:=E.unit (p.idxOf c) a1 t (by omega)
    rw[a3,jd (fun h=>hc (by rw[<-a3];congr 1;exact h.symm))] at this
    rw[this];grind
   ·rw[jd h]
 rw[<-h1,<-JM]
 exact jF n fun c _=>by split<;>grind
theorem Ech.low (E:Ech R e n m p) {i:Nat} (h1:p.length<=i) (h2:i<R) (x:Nat->Rat):mv n m x i=0 :=
 pI n fun c hc=>by rw[E.rest i h1 h2 c hc];grind
def KZ (m:Mt) (p:List Nat) (j:Nat):Nat->Rat:=fun c=>if c=j then 1 else if c ∈ p then-m (p.idxOf c) j else 0
theorem JH (m:Mt) (p:List Nat) (j:Nat):KZ m p j j=1:=jl rfl
theorem a5P {m:Mt} {p:List Nat} {j c:Nat} (h:c ∉ p):KZ m p j c=if c=j then 1 else 0:=by
 unfold KZ;rw[jd h]
theorem a9l (E:Ech R e n m p) {j t:Nat} (ht:t<p.length) (hj:j ∉ p):KZ m p j p[t]=- m t j:=by
 unfold KZ
 rw[jd (fun h=>hj (by rw[<-h];exact wz ht)),jl (wz ht),qR E.nd ht]
theorem Ech.null (E:Ech R e n m p) {j:Nat} (hn:j<n) (hj:j ∉ p):∀ i,i<R->mv n e (KZ m p j) i=0:=by
 refine(E.sol n _).mpr fun i hi=>?_
 by_cases h:i<p.length
 ·rw[E.row h,a9l E h hj,RF j n hn (fun c _ hc=>?_),jd hj,JH]
  ·grind
  ·split
   ·rfl
   ·rename_i h;rw[a5P h,jd hc];grind
 ·exact E.low (by omega) hi _
theorem Ech.span (E:Ech R e n m p) {x:Nat->Rat} (hx:∀ i,i<R->mv n e x i=0) (hf:∀ c,c<n->c ∉ p->x c=0):∀ c,c<n->x c=0:=by
 intro c hc
 by_cases h:c ∈ p
 ·have ⟨a1,a2⟩:=FH h
  have a3:p[p.idxOf c]=c:=List.getElem_idxOf a1
  have h1:=(E.sol n x).mp hx (p.idxOf c) (oq a1 E.le)
  rw[E.row a1,a3,pI n (fun c hc=>?_)] at h1
  ·grind
  ·split
   ·rfl
   ·rename_i h;rw[hf c hc h];grind
 ·exact hf c hc h
theorem Ech.full (E:Ech R e n m p) (h:p.length=n) {c:Nat} (hc:c<n):c ∈ p:=by
 have h1:=IW E.nd E.lt
 by_cases hm:c ∈ p
 ·exact hm
 ·have:=List.length_pos_of_mem (qQ.mpr ⟨hc,hm⟩);omega
theorem Ech.inj (E:Ech R e n m p):p.length=n↔∀ x,(∀ i,i<R->mv n e x i=0)->∀ c,c<n->x c=0:=by
 constructor
 ·intro h x hx
  exact E.span hx (fun c hc hn=>absurd (E.full h hc) hn)
 ·intro h
  have h1:=IW E.nd E.lt
  rcases Ah (frees n p).length with h0|h0
  ·omega
  ·have ⟨h2,h3⟩:=qQ.mp (wz h0)
   have:=h _ (E.null h2 h3) _ h2
   rw[JH] at this;exact absurd this (by decide)
theorem Ech.col (E:Ech R e n m p) {q:Nat} (hq:n<=q) (x:Nat->Rat):(∀ i,i<R->mv n e x i=e i q)↔(∀ i,i<R->mv n m x i=m i q):=by
 have key:∀ (a:Mt) i,mv (q+1) a (fun c=>if c<n then x c else if c=q then -1 else 0) i=mv n a x i-a i q:=fun a i=>by
  unfold mv
  show sm q _+_=_
  obtain⟨d,rfl⟩:∃ d,q=n+d:=⟨q-n,by omega⟩
  rw[b0p,pI d (fun c hc=>?_),jF n (g:=fun k=>a i k*x k) (fun c hc=>by simp only[jl hc])]
  ·simp only[jd (show ¬ n+d<n by omega)];simp only[Di];grind
  ·simp only[jd (show ¬ n+c<n by omega),jd (show ¬ n+c=n+d by omega)];grind
 have h:=E.sol (q+1) (fun c=>if c<n then x c else if c=q then -1 else 0)
 simp only[key] at h
 constructor
 ·intro h1 i hi;have:=h.mp (fun i hi=>by rw[h1 i hi];grind) i hi;grind
 ·intro h1 i hi;have:=h.mpr (fun i hi=>by rw[h1 i hi];grind) i hi;grind
def xs (m:Mt) (p:List Nat) (q:Nat):Nat->Rat:=fun c=>if c ∈ p then m (p.idxOf c) q else 0
theorem Ech.solve (E:Ech R e n m p) {q:Nat} (hq:n<=q) (h0:∀ i,p.length<=i->i<R->m i q=0):∀ i,i<R->mv n e (xs m p q) i=e i q:=by
 refine(E.col hq _).mpr fun i hi=>?_
 by_cases h:i<p.length
 ·rw[E.row h,pI n (fun c _=>?_)]
  ·unfold xs;rw[jl (wz h),qR E.nd h];grind
  ·split
   ·rfl
   ·rename_i h;unfold xs;rw[jd h];grind
 ·rw[E.low (by omega) hi,h0 i (by omega) hi]
end
theorem YF (R:Nat) (e:Mt):∀ n,(red R e n).2.length<=n/\((red R e n).2.length=n->(red R e n).2=List.range n)
 | 0=>⟨ay _,fun _=>rfl⟩
 | n+1=>by
  have ⟨h1,h2⟩:=YF R e n
  unfold red
  split
  ·exact⟨by omega,fun h=>by omega⟩
  ·refine⟨by simp;omega,fun h=>?_⟩
   simp at h
   show _++_=_
   rw[Ba,h2 h]
theorem yR (R:Nat) (e:Mt) (n:Nat):red R e (n+1)=if fk (red R e n).1 n (red R e n).2.length (R-(red R e n).2.length)=R then red R e n
 else (iH (red R e n).1 (red R e n).2.length (fk (red R e n).1 n (red R e n).2.length (R-(red R e n).2.length)) n,(red R e n).2++[n]):=rfl
theorem FU {R:Nat} {e f:Mt} {C:Nat} (h:∀ i,i<R->∀ c,c<C->e i c=f i c):∀ n,n<=C->(red R e n).2=(red R f n).2/\∀ i,i<R->∀ c,c<C->(red R e n).1 i c=(red R f n).1 i c
 | 0,_=>⟨rfl,h⟩
 | n+1,hn=>by
  have ⟨h1,h2⟩:=FU h n (by omega)
  have hl:=(fH R e n).le
  have hk:fk (red R e n).1 n (red R e n).2.length (R-(red R e n).2.length)=fk (red R f n).1 n (red R f n).2.length (R-(red R f n).2.length):=by
   rw[h1];exact a7C _ _ (fun i _ hi=>h2 i (by rw[<-h1] at hi;omega) n (by omega))
  have ⟨k1,k2⟩:=EI (red R e n).1 n (R-(red R e n).2.length) (red R e n).2.length
  unfold red
  rw[<-hk,<-h1]
  generalize fk (red R e n).1 n (red R e n).2.length (R-(red R e n).2.length)=k at *
  by_cases hR:k=R
  ·rw[jl hR,jl hR];exact⟨h1,h2⟩
  ·rw[jd hR,jd hR]
   refine⟨rfl,fun i hi c hc=>?_⟩
   show iH _ _ _ _ i c=iH _ _ _ _ i c
   have hsw:∀ c,c<C->gI (red R e n).1 (red R e n).2.length k i c=gI (red R f n).1 (red R e n).2.length k i c:=fun c hc=>by
    unfold gI;split
    ·exact h2 k (by omega) c hc
    ·split
     ·exact h2 _ (by omega) c hc
     ·exact h2 i hi c hc
   unfold iH
   rw[h2 k (by omega) c hc,h2 k (by omega) n (by omega),hsw c hc,hsw n (by omega)]
theorem b2H {n:Nat} {e:Mt} (h:(red n e n).2.length=n) {q:Nat} (hq:n<=q):∀ i,i<n->mv n e (fun c=>(red n e n).1 c q) i=e i q:=by
 have E:=fH n e n
 have hr:=(YF n e n).2 h
 intro i hi
 rw[<-E.solve hq (fun i h1 h2=>by omega) i hi]
 refine jF n fun c hc=>?_
 unfold xs
 rw[jl (E.full h hc)]
 have h3:(red n e n).2.idxOf c=c:=by
  have a1:c<(red n e n).2.length:=by omega
  have a2:(red n e n).2[c]=c:=by simp[hr]
  have:=qR E.nd a1
  rwa [a2] at this
 rw[h3]
theorem a1j {n:Nat} {a:Mt} (h:∀ x,(∀ i,i<n->mv n a x i=0)->∀ c,c<n->x c=0) (b:Nat->Rat):∃ x,∀ i,i<n->mv n a x i=b i:=by
 have E:=fH n (fun i c=>if c<n then a i c else b i) n
 have hc:∀ x i,mv n (fun i c=>if c<n then a i c else b i) x i=mv n a x i:=fun x i=>jF n fun c hc=>by simp only[jl hc]
 have hl:=E.inj.mpr (fun x hx=>h x (fun i hi=>by rw[<-hc];exact hx i hi))
 refine⟨fun c=>(red n (fun i c=>if c<n then a i c else b i) n).1 c n,fun i hi=>?_⟩
 rw[<-hc,b2H hl (ay n) i hi,jd (by omega)]
end
theorem a9a (m k:Nat) (a b c:Mt):mm m (mm k a b) c=mm k a (mm m b c):=by
 funext i j;unfold mm
 rw[show (fun l=>sm k (fun q=>a i q*b q l)*c l j)=(fun l=>sm k (fun q=>a i q*b q l*c l j)) from funext fun l=>(a4H _ _ k).symm,a4J]
 refine jF k fun q _=>?_
 rw[<-DI];exact jF m fun l _=>by grind
def ma (a b:Mt):Mt:=fun i j=>a i j+b i j
def ms (a b:Mt):Mt:=fun i j=>a i j-b i j
def zm:Mt:=fun _ _=>0
structure Gau (N f:Nat) (n g:Mt):Prop where
 sym:∀ i,i<N->∀ j,j<N->n i j=n j i
 ng:∀ i,i<N->∀ j,j<f->mm N n g i j=0
 rank:(red N g f).2.length=f
 dim:f+(red N n N).2.length=N
theorem b4b (n f:Nat) (a b:Mt) (x:Nat->Rat) (i:Nat):mv f (mm n a b) x i=mv n a (mv f b x) i :=
 congrFun (congrFun (a9a f n a b (fun k _=>x k)) i) 0
theorem b5r (n:Nat) (a:Mt) (x y:Nat->Rat) (i:Nat):mv n a (fun c=>x c-y c) i=mv n a x i-mv n a y i:=by
 unfold mv;rw[<-b0r];exact jF n fun k _=>by grind
theorem b2i {n:Nat} {a:Mt} {x:Nat->Rat} {i:Nat} (h:∀ c,c<n->x c=0):mv n a x i=0:=pI n fun c hc=>by rw[h c hc];grind
theorem Gau.inj {N f:Nat} {n g:Mt} (H:Gau N f n g) {z:Nat->Rat} (h:∀ i,i<N->mv f g z i=0):∀ c,c<f->z c=0:=(fH N g f).inj.mp H.rank z h
theorem Gau.nul {N f:Nat} {n g:Mt} (H:Gau N f n g) (z:Nat->Rat):∀ i,i<N->mv N n (mv f g z) i=0:=fun i hi=>by
 rw[<-b4b];exact pI f fun c hc=>by rw[H.ng i hi c hc];grind
theorem Gau.span {N f:Nat} {n g:Mt} (H:Gau N f n g) {x:Nat->Rat} (hx:∀ i,i<N->mv N n x i=0):∃ t,∀ i,i<N->x i=mv f g t i:=by
 have E:=fH N n N
 have hfr:=IW E.nd E.lt
 have hf:(frees N (red N n N).2).length=f:=by have:=H.dim;omega
 have hin:∀ {y:Nat->Rat},(∀ i,i<N->mv N n y i=0)->(∀ s,s<f->y ((frees N (red N n N).2).getD s 0)=0)->∀ c,c<N->y c=0:=fun {y} hy h0=>by
  refine E.span hy fun c hc hp=>?_
  have h1:=qQ.mpr ⟨hc,hp⟩
  have ⟨a1,a2⟩:=FH h1
  rw[hf] at a1;have:=h0 _ a1;rwa [a2] at this
 have ⟨t,ht⟩:=a1j (n:=f) (a:=fun s c=>g ((frees N (red N n N).2).getD s 0) c) (fun z hz=>H.inj (hin (H.nul z) (fun s hs=>hz s hs))) (fun s=>x ((frees N (red N n N).2).getD s 0))
 refine⟨t,fun i hi=>?_⟩
 have:=hin (y:=fun c=>x c-mv f g t c) (fun i hi=>by rw[b5r,hx i hi,H.nul t i hi];grind) (fun s hs=>by
  have:mv f g t ((frees N (red N n N).2).getD s 0)=x ((frees N (red N n N).2).getD s 0):=ht s hs
  rw[this];grind) i hi
 grind
def b0Z (n:Nat) (a b:Mt):Mt:=fun i j=>if j<n then a i j else b i (j-n)
structure NJ (n:Nat) (a x:Mt):Prop where
 r:∀ i,i<n->∀ j,j<n->mm n a x i j=idm i j
 l:∀ i,i<n->∀ j,j<n->mm n x a i j=idm i j
theorem c0D {n:Nat} {x:Nat->Rat} {i:Nat} (h:i<n):mv n idm x i=x i:=by
 unfold mv;rw[RF i n h (fun k _ hk=>by unfold idm;rw[jd (by omega)];grind)]
 unfold idm;rw[jl rfl];grind
theorem b5q {n:Nat} {a b:Mt} {x:Nat->Rat} {i:Nat} (h:∀ c,c<n->a i c=b i c):mv n a x i=mv n b x i:=jF n fun c hc=>by rw[h c hc]
theorem NJ.mvl {n:Nat} {a x:Mt} (H:NJ n a x) (u:Nat->Rat) {i:Nat} (h:i<n):mv n x (mv n a u) i=u i:=by
 rw[<-b4b,b5q (b:=idm) (fun c hc=>H.l i h c hc),c0D h]
theorem NJ.inj {n:Nat} {a x:Mt} (H:NJ n a x) {u:Nat->Rat} (h:∀ i,i<n->mv n a u i=0):∀ c,c<n->u c=0:=fun c hc=>by
 rw[<-H.mvl u hc];exact b2i h
def Cdn (e:Mt) (R C K:Nat):Prop:=∃ D:Nat,0<D/\nsz D<=K/\∀ i,i<R->∀ j,j<C->∃ z:Int,e i j*(D:Nat)=(z:Int)/\isz z<=K
theorem XW {D:Nat} (h:0<D):((D:Nat):Rat)≠0:=fun h1=>by
 have:((D:Nat):Rat)=((0:Nat):Rat):=h1
 have:=Rat.natCast_inj.mp this;omega
theorem Cdn.rsz {e:Mt} {R C K:Nat} (H:Cdn e R C K) {i j:Nat} (h1:i<R) (h2:j<C):rsz (e i j)<=K:=by
 obtain⟨D,h0,hD,h⟩:=H
 obtain⟨z,hz,hs⟩:=h i h1 j h2
 have e1:e i j=Rat.divInt z D:=by
  rw[Eb,<-hz,Rat.div_def]
  have:((D:Int):Rat)=((D:Nat):Rat):=Rat.intCast_natCast D
  rw[this,Rat.mul_assoc,Bl _ (XW h0)];grind
 rw[e1]
 exact wF _ _ (by omega) hs (by unfold isz;simpa using hD)
theorem Cdn.mono {e:Mt} {R C K L:Nat} (H:Cdn e R C K) (h:K<=L):Cdn e R C L:=by
 obtain⟨D,h0,hD,hh⟩:=H
 exact⟨D,h0,by omega,fun i h1 j h2=>by obtain⟨z,hz,hs⟩:=hh i h1 j h2;exact⟨z,hz,by omega⟩⟩
theorem Cdn.congr {e f:Mt} {R C K:Nat} (H:Cdn e R C K) (h:∀ i,i<R->∀ j,j<C->f i j=e i j):Cdn f R C K:=by
 obtain⟨D,h0,hD,hh⟩:=H
 exact⟨D,h0,hD,fun i h1 j h2=>by rw[h i h1 j h2];exact hh i h1 j h2⟩
theorem Cdn.tr {e:Mt} {R C K:Nat} (H:Cdn e R C K):Cdn (tr e) C R K:=by
 obtain⟨D,h0,hD,hh⟩:=H
 exact⟨D,h0,hD,fun i h1 j h2=>hh j h2 i h1⟩
theorem b3y {f:Nat->Rat} {D K:Nat}:∀ n,(∀ k,k<n->∃ z:Int,f k*(D:Nat)=(z:Int)/\isz z<=K)->∃ z:Int,sm n f*(D:Nat)=(z:Int)/\isz z<=K+n
 | 0,_=>⟨0,by show (0:Rat)*_=_;rw[Rat.zero_mul];rfl,by rw[PI];omega⟩
 | n+1,h=>by
  have ⟨z,h1,h2⟩:=b3y n (fun k hk=>h k (by omega))
  have ⟨y,h3,h4⟩:=h n (by omega)
  refine⟨z+y,?_,by have:=vW z y;omega⟩
  show (sm n f+f n)*_=_
  rw[Rat.intCast_add,<-h1,<-h3];grind
theorem rU (a b:Nat):((a*b:Nat):Rat)=(a:Rat)*(b:Rat):=Rat.natCast_mul a b
theorem Cdn.mm {a b:Mt} {R n C K L:Nat} (H:Cdn a R n K) (G:Cdn b n C L):Cdn (mm n a b) R C (K+L+n):=by
 obtain⟨D,h0,hD,hh⟩:=H
 obtain⟨E,g0,gD,gg⟩:=G
 refine⟨D*E,Nat.mul_pos h0 g0,by have:=sU D E;omega,fun i hi j hj=>b3y n fun k hk=>?_⟩
 obtain⟨z,h1,h2⟩:=hh i hi k hk
 obtain⟨y,h3,h4⟩:=gg k hk j hj
 exact⟨z*y,by rw[xq,<-h1,<-h3,rU];grind,by have:=fG z y;omega⟩
theorem Cdn.two {a b:Mt} {R C K L:Nat} (H:Cdn a R C K) (G:Cdn b R C L) (s:Int) (hs:s=1\/s=-1):Cdn (fun i j=>a i j+s*b i j) R C (K+L+1):=by
 obtain⟨D,h0,hD,hh⟩:=H
 obtain⟨E,g0,gD,gg⟩:=G
 refine⟨D*E,Nat.mul_pos h0 g0,by have:=sU D E;omega,fun i hi j hj=>?_⟩
 obtain⟨z,h1,h2⟩:=hh i hi j hj
 obtain⟨y,h3,h4⟩:=gg i hi j hj
 refine⟨z*E+s*(y*D),?_,?_⟩
 ·rw[Rat.intCast_add,xq,xq,xq,<-h1,<-h3,rU,Rat.intCast_natCast,Rat.intCast_natCast];grind
 ·have a1:=fG z E;have a2:=fG y D
  have a3:isz ((E:Nat):Int)<=L:=by unfold isz;simpa using gD
  have a4:isz ((D:Nat):Int)<=K:=by unfold isz;simpa using hD
  have a5:=vW (z*E) (s*(y*D))
  have a6:isz (s*(y*D))=isz (y*D):=by
   rcases hs with h|h
   ·rw[h,Int.one_mul]
   ·rw[h,Int.neg_one_mul,jK]
  omega
theorem Cdn.add {a b:Mt} {R C K L:Nat} (H:Cdn a R C K) (G:Cdn b R C L):Cdn (ma a b) R C (K+L+1) :=
 (H.two G 1 (Or.inl rfl)).congr fun i _ j _=>by show a i j+b i j=a i j+((1:Int):Rat)*b i j;rw[show ((1:Int):Rat)=1 from rfl];grind
theorem Cdn.sub {a b:Mt} {R C K L:Nat} (H:Cdn a R C K) (G:Cdn b R C L):Cdn (ms a b) R C (K+L+1) :=
 (H.two G (-1) (Or.inr rfl)).congr fun i _ j _=>by show a i j-b i j=a i j+((-1:Int):Rat)*b i j;rw[show ((-1:Int):Rat)=-1 from rfl];grind
theorem Cdn.idm (R C:Nat):Cdn idm R C 1:=by
 refine⟨1,by omega,yG (x:=(1:Int)) (k:=1) (by unfold BB;decide),fun i _ j _=>⟨if i=j then 1 else 0,?_,?_⟩⟩
 ·show (if i=j then (1:Rat) else 0)*((1:Nat):Rat)=((if i=j then (1:Int) else 0:Int):Rat)
  rw[show ((1:Nat):Rat)=1 from rfl,Rat.mul_one]
  by_cases h:i=j
  ·rw[jl h,jl h];rfl
  ·rw[jd h,jd h];rfl
 ·split
  ·exact yG (by unfold BB;decide)
  ·rw[PI];omega
theorem Cdn.bes {a b:Mt} {R n C K L:Nat} (H:Cdn a R n K) (G:Cdn b R C L):Cdn (b0Z n a b) R (n+C) (K+L):=by
 obtain⟨D,h0,hD,hh⟩:=H
 obtain⟨E,g0,gD,gg⟩:=G
 have a3:isz ((E:Nat):Int)<=L:=by unfold isz;simpa using gD
 have a4:isz ((D:Nat):Int)<=K:=by unfold isz;simpa using hD
 refine⟨D*E,Nat.mul_pos h0 g0,by have:=sU D E;omega,fun i hi j hj=>?_⟩
 unfold b0Z
 by_cases h:j<n
 ·obtain⟨z,h1,h2⟩:=hh i hi j h
  refine⟨z*E,?_,by have:=fG z E;omega⟩
  rw[jl h,xq,<-h1,rU,Rat.intCast_natCast];grind
 ·obtain⟨z,h1,h2⟩:=gg i hi (j-n) (by omega)
  refine⟨z*D,?_,by have:=fG z D;omega⟩
  rw[jd h,xq,<-h1,rU,Rat.intCast_natCast];grind
theorem Cdn.step {e:Mt} {R C K r k j:Nat} (H:Cdn e R C K) (hr:r<R) (hk:k<R) (hj:j<C) (hz:e k j≠0):Cdn (iH e r k j) R C (2*K+1):=by
 obtain⟨D,h0,hD,hh⟩:=H
 obtain⟨p,p1,p2⟩:=hh k hk j hj
 have a4:isz ((D:Nat):Int)<=K:=by unfold isz;simpa using hD
 have hsw:∀ i,i<R->∀ c,c<C->∃ z:Int,gI e r k i c*(D:Nat)=(z:Int)/\isz z<=K:=fun i hi c hc=>by
  unfold gI;split
  ·exact hh k hk c hc
  ·split
   ·exact hh r hr c hc
   ·exact hh i hi c hc
 have hp:p≠0:=fun h=>by
  rw[h] at p1
  have h3:e k j*(D:Nat)=0:=p1
  have h2:=XW h0
  have:e k j*(D:Nat)*((D:Nat):Rat)⁻¹=e k j:=by rw[Rat.mul_assoc,Bl _ h2];grind
  rw[h3] at this;exact hz (by rw[<-this];grind)
 have hpR:(p:Rat)≠0:=fun h=>hp (Rat.intCast_inj.mp h)
 have hpa:((p.natAbs:Nat):Rat)=(p.sign:Rat)*p:=by
  rw[<-Rat.intCast_natCast,<-xq,show p.sign*p=(p.natAbs:Int) by rw[Int.sign_mul_self]]
 have hs:isz p.sign<=1:=by
  refine yG ?_
  have:=Int.natAbs_sign_of_ne_zero hp;rw[this];unfold BB;decide
 have hsm:∀ y:Int,isz (p.sign*y)=isz y:=fun y=>by
  rcases Cj p 0 with h|h|h
  ·rw[um h,Int.neg_one_mul,jK]
  ·exact absurd h hp
  ·rw[vg h,Int.one_mul]
 refine⟨D*p.natAbs,Nat.mul_pos h0 (Int.natAbs_pos.mpr hp),by have:=sU D p.natAbs;unfold isz at p2;omega,fun i hi c hc=>?_⟩
 obtain⟨y,y1,y2⟩:=hh k hk c hc
 have hdv:e k c / e k j*p=y:=by
  rw[<-p1,<-y1,Rat.div_def]
  have:=Bl _ hz;grind
 unfold iH
 by_cases h:i=r
 ·refine⟨p.sign*(y*D),?_,by rw[hsm];have:=fG y D;omega⟩
  rw[jl h,rU,hpa,xq,xq,Rat.intCast_natCast,<-hdv];grind
 ·obtain⟨z,z1,z2⟩:=hsw i hi c hc
  obtain⟨x,x1,x2⟩:=hsw i hi j hj
  refine⟨p.sign*(z*p-x*y),?_,?_⟩
  ·rw[jd h,rU,hpa,xq,Rat.intCast_sub,xq,xq,<-z1,<-x1,<-hdv];grind
  ·rw[hsm];have b1:=LW (z*p) (x*y);have b2:=fG z p;have b3:=fG x y;omega
theorem Cdn.red {e:Mt} {R C K:Nat} (H:Cdn e R C K):∀ n,n<=C->Cdn (red R e n).1 R C (2 ^ n*(K+1)-1)
 | 0,_=>H.mono (by omega)
 | n+1,hn=>by
  have ih:=Cdn.red H n (by omega)
  have E:=fH R e n
  rw[yR]
  have ⟨k1,k2⟩:=EI (Proofs.YtbkocjmmbkifjaaGreat.red R e n).1 n (R-(Proofs.YtbkocjmmbkifjaaGreat.red R e n).2.length) (Proofs.YtbkocjmmbkifjaaGreat.red R e n).2.length
  have k4:=OH (Proofs.YtbkocjmmbkifjaaGreat.red R e n).1 n (R-(Proofs.YtbkocjmmbkifjaaGreat.red R e n).2.length) (Proofs.YtbkocjmmbkifjaaGreat.red R e n).2.length
  have hle:=E.le
  split
  ·exact ih.mono (by have:=oh (K+1) (wu (show 0<2 by omega) (show n<=n+1 by omega));omega)
  ·rename_i h
   refine(ih.step (r:=(Proofs.YtbkocjmmbkifjaaGreat.red R e n).2.length) (by omega) (by omega) (show n<C by omega) (k4 (by omega))).mono ?_
   have h1:0<2 ^ n*(K+1):=Nat.mul_pos (Nat.pow_pos (by omega)) (by omega)
   rw[Nat.pow_succ,xu (2 ^ n) 2,Nat.mul_assoc];omega
def pd:Nat->(Nat->Nat)->Nat
 | 0,_=>1
 | n+1,f=>pd n f*f n
theorem a2o {f:Nat->Nat}:∀ n,(∀ k,k<n->0<f k)->0<pd n f
 | 0,_=>Nat.one_pos
 | n+1,h=>Nat.mul_pos (a2o n (fun k hk=>h k (by omega))) (h n (by omega))
theorem a2m {f:Nat->Nat} {k:Nat}:∀ n,k<n->f k ∣ pd n f
 | 0,h=>by omega
 | n+1,h=>by
  show f k ∣ pd n f*f n
  by_cases e:k=n
  ·rw[e];exact Nat.dvd_mul_left _ _
  ·exact Nat.dvd_trans (a2m n (by omega)) (Nat.dvd_mul_right _ _)
theorem a2n {f:Nat->Nat} {K:Nat}:∀ n,(∀ k,k<n->nsz (f k)<=K)->nsz (pd n f)<=n*K+1
 | 0,_=>by
  have:isz ((1:Nat):Int)<=1:=yG (by unfold BB;decide)
  show nsz 1<=_;unfold isz at this;simp at this;omega
 | n+1,h=>by
  have h1:=a2n n (fun k hk=>h k (by omega))
  have h2:=h n (by omega)
  have h3:=sU (pd n f) (f n)
  show nsz (pd n f*f n)<=_;rw[yg];omega
theorem Cdn.of {e:Mt} {R C:Nat} (h:∀ i,i<R->∀ j,j<C->Proofs.YtbkocjmmbkifjaaGreat.rsz (e i j)<=1):Cdn e R C (R*(C+1)+2):=by
 have hp:0<pd R (fun i=>pd C (fun j=>(e i j).den)):=a2o R fun i _=>a2o C fun j _=>(e i j).den_pos
 have hn:nsz (pd R (fun i=>pd C (fun j=>(e i j).den)))<=R*(C+1)+1:=a2n R fun i hi=>by
  have:=a2n (f:=fun j=>(e i j).den) (K:=1) C fun j hj=>jc (Nat.le_max_right _ _) (h i hi j hj)
  omega
 refine⟨_,hp,by omega,fun i hi j hj=>?_⟩
 have ⟨q,hq⟩:(e i j).den ∣ pd R (fun i=>pd C (fun j=>(e i j).den)):=Nat.dvd_trans (a2m (f:=fun j=>(e i j).den) C hj) (a2m (f:=fun i=>pd C (fun j=>(e i j).den)) R hi)
 refine⟨(e i j).num*q,?_,?_⟩
 ·rw[hq,rU,xq,Rat.intCast_natCast]
  have h1:e i j*((e i j).den:Rat)=(e i j).num:=by
   have h2:=Rat.num_divInt_den (e i j)
   have h3:=Rat.inv_mul_cancel _ (XW (e i j).den_pos)
   rw[Eb,Rat.div_def,Rat.intCast_natCast] at h2
   generalize ((e i j).num:Rat)=x at *
   generalize ((e i j).den:Rat)=y at *
   rw[<-h2,Rat.mul_assoc,h3,Rat.mul_one]
  rw[<-h1];grind
 ·have a1:=fG (e i j).num q
  have a2:isz (e i j).num<=1:=jc (Nat.le_max_left _ _) (h i hi j hj)
  have a3:nsz q<=R*(C+1)+1:=jc (yM (by rw[hq];exact Nat.le_mul_of_pos_left _ (e i j).den_pos)) hn
  have a4:isz ((q:Nat):Int)<=R*(C+1)+1:=by unfold isz;simpa using a3
  omega
end Go.Proofs.YtbkocjmmbkifjaaGreat
