/-
  Lemmas for the theorem vnulls_holds, part 22 of 36.
-/
import Derived.Test.YtgplhbhfdgempaaGreatNu06
import Derived.Test.YtgplhbhfdgempaaGreatNu21
namespace Go.Proofs.YtgplhbhfdgempaaGreat
open Go Go.RowKit
set_option maxRecDepth 100000
set_option maxHeartbeats 1000000
set_option linter.unusedVariables false
set_option linter.unusedSimpArgs false
instance c1p (n:Nat):OfNat (Ty.den tI) n:=inferInstanceAs (OfNat Int n)
abbrev LQ':Type:=List Rat
abbrev lv (l:LQ') (i:Nat):Rat:=l.getD i 0
theorem bK {R C:Nat} {f:Nat->Nat->Rat}:(tab R C f).length=R:=by simp[tab]
theorem iV {R C:Nat} {f:Nat->Nat->Rat} {i:Nat} (h:i<R):(tab R C f).getD i []=(List.range C).map (f i):=by
 simp[tab,List.getD_eq_getElem?_getD,h]
theorem qH {R C:Nat} {f:Nat->Nat->Rat} {i j:Nat} (h1:i<R) (h2:j<C):ent (tab R C f) i j=f i j:=by
 show ((tab R C f).getD i []).getD j 0=_
 rw[iV h1];simp[List.getD_eq_getElem?_getD,h2]
theorem b0y {R C:Nat} {f:Nat->Nat->Rat}:∀ r ∈ tab R C f,r.length=C:=by
 intro r hr;obtain⟨i,_,rfl⟩:=List.mem_map.mp hr;simp
theorem rV {R C:Nat} {f:Nat->Nat->Rat} (r1:1<=R) (r2:R<=64) (c1:1<=C) (c2:C<=64):isM (tab R C f) R C:=⟨bK,b0y,r1,r2,c1,c2⟩
theorem isM.wd {a:MQ} {R C:Nat} (h:isM a R C):wdM a=C:=fD (p:=fun r:List Rat=>r.length=C) h.2.1 (by have:=h.1;have:=h.2.2.1;omega)
theorem isM.row {a:MQ} {R C:Nat} (h:isM a R C) {i:Nat} (hi:i<R):(a.getD i []).length=C:=fD (p:=fun r:List Rat=>r.length=C) h.2.1 (by have:=h.1;omega)
theorem gW {R C:Nat} {f g:Nat->Nat->Rat} (h:∀ i,i<R->∀ j,j<C->f i j=g i j):tab R C f=tab R C g:=by
 unfold tab
 refine List.map_congr_left fun i hi=>List.map_congr_left fun j hj=>h i (List.mem_range.mp hi) j (List.mem_range.mp hj)
theorem a9Q {a:List Rat} {C:Nat} (h:a.length=C):(List.range C).map (fun j=>a.getD j 0)=a:=by
 apply List.ext_getElem
 ·simp[h]
 ·intro j h1 h2;simp[List.getD_eq_getElem?_getD,h2]
theorem isM.tab {a:MQ} {R C:Nat} (h:isM a R C):Proofs.YtgplhbhfdgempaaGreat.tab R C (ent a)=a:=by
 apply List.ext_getElem
 ·rw[bK,h.1]
 ·intro i h1 h2
  have hi:i<R:=by rw[<-h.1];exact h2
  have e:(Proofs.YtgplhbhfdgempaaGreat.tab R C (ent a))[i]=(Proofs.YtgplhbhfdgempaaGreat.tab R C (ent a)).getD i []:=by rw[List.getD_eq_getElem?_getD,List.getElem?_eq_getElem h1];rfl
  rw[e,iV hi]
  have e2:a[i]=a.getD i []:=by rw[List.getD_eq_getElem?_getD,List.getElem?_eq_getElem h2];rfl
  rw[e2];exact a9Q (h.row hi)
theorem jA {R C:Nat} {f:Nat->Nat->Rat} {i:Nat} (h:i<R):(aS R C f).getD i []=(List.range C).map (fun c=>dR (f i c)):=by
 simp[aS,List.getD_eq_getElem?_getD,h]
theorem map_set {α:Type} (g:Nat->α) (C c:Nat) (v:α):((List.range C).map g).set c v=(List.range C).map (fun d=>if d=c then v else g d):=by
 apply List.ext_getElem
 ·simp
 ·intro i h1 h2
  rw[List.getElem_set]
  by_cases e:c=i
  ·subst e;simp
  ·rw[if_neg e];simp[show ¬ i=c by omega]
theorem a2i {R C:Nat} {f:Nat->Nat->Rat} (i:Nat) (g:Nat->Rat):(aS R C f).set i ((List.range C).map fun c=>dR (g c))=aS R C (fun k=>if k=i then g else f k):=by
 unfold aS;rw[map_set]
 refine List.map_congr_left fun k _=>?_
 by_cases e:k=i
 ·simp only[if_pos e]
 ·simp only[if_neg e]
theorem kP {R C:Nat} {f g:Nat->Nat->Rat} (h:∀ i,i<R->∀ j,j<C->f i j=g i j):aS R C f=aS R C g:=by
 unfold aS
 refine List.map_congr_left fun i hi=>List.map_congr_left fun j hj=>?_
 rw[h i (List.mem_range.mp hi) j (List.mem_range.mp hj)]
theorem gI {α:Type} {g:Nat->α} {C c:Nat} {d:α} (h:c<C):((List.range C).map g).getD c d=g c:=by
 simp[List.getD_eq_getElem?_getD,h]
def szM (a:MQ) (K:Nat):Prop:=∀ i,i<a.length->∀ j,j<wdM a->rsz (ent a i j)<=K
def okM (a:MQ):Prop:=isM a a.length (wdM a)/\szM a 100000000
abbrev liftM (a:MQ):MR:=List.map (fun xs=>List.map (fun x=>dR x) xs) a
theorem KR (a:MQ):(liftM a).length=a.length:=by simp
theorem a6i (a:MQ) (i:Nat):(liftM a).getD i []=(a.getD i []).map dR:=by
 simp[List.getD_eq_getElem?_getD]
 cases a[i]?<;>rfl
theorem a1p (a:MQ):wdM (liftM a)=wdM a:=by show ((liftM a).getD 0 []).length=(a.getD 0 []).length;rw[a6i,List.length_map]
theorem okM.ent {a:MQ} (h:okM a) {r:List Rat} (hr:r ∈ a) {x:Rat} (hx:x ∈ r):rsz x<=100000000:=by
 obtain⟨i,hi,rfl⟩:=List.getElem_of_mem hr
 obtain⟨j,hj,rfl⟩:=List.getElem_of_mem hx
 have h1:=h.1.2.1 _ (List.getElem_mem hi)
 have h2:=h.2 i hi j (by rw[<-h1];exact hj)
 have e:Proofs.YtgplhbhfdgempaaGreat.ent a i j=a[i][j]:=by
  show (a.getD i []).getD j 0=_
  rw[show a.getD i []=a[i] by rw[List.getD_eq_getElem?_getD,List.getElem?_eq_getElem hi];rfl,List.getD_eq_getElem?_getD,List.getElem?_eq_getElem hj];rfl
 rwa [e] at h2
theorem KX (x:Rat):(dR x).n<=rsz x/\(dR x).m<=rsz x:=⟨Nat.le_max_left _ _,Nat.le_max_right _ _⟩
theorem okM.short {a:MQ} (h:okM a):iF (liftM a):=by
 refine⟨by have:=h.1.2.2.2.1;simp;omega,fun r hr=>?_⟩
 obtain⟨s,hs,rfl⟩:=List.mem_map.mp hr
 refine⟨by have:=h.1.2.1 s hs;have:=h.1.2.2.2.2.2;simp;omega,fun q hq=>?_⟩
 obtain⟨x,hx,rfl⟩:=List.mem_map.mp hq
 have h1:=h.ent hs hx
 have ⟨h2,h3⟩:=KX x
 exact⟨by omega,by omega⟩
theorem okM.chk {a:MQ} (h:okM a):fP (liftM a)=0:=by
 obtain⟨⟨h1,h2,h3,h4,h5,h6⟩,_⟩:=h
 have hb:(liftM a).any (badR (wdM a))=false:=by
  refine List.any_eq_false.mpr fun r hr=>?_
  obtain⟨s,hs,rfl⟩:=List.mem_map.mp hr
  unfold badR
  have:(List.map (fun x=>dR x) s).any (fun q=>!q.ok)=false:=List.any_eq_false.mpr fun q hq=>by
   obtain⟨x,_,rfl⟩:=List.mem_map.mp hq;simp[dR]
  rw[this,List.length_map,h2 s hs];simp
 unfold fP
 rw[KR,a1p,hb,if_pos ⟨h3,h4,h5,h6,rfl⟩]
def tK (m n:Int) (f:Nat->Nat->Rat) (P:Int->Int->Prop) (Fin:MR->Prop):Prop:=(m=m/\0<=m/\m<=1000000000/\True)/\(asT Int 0=0/\List.replicate (Int.toNat m) (aC aF)=List.replicate (Int.toNat m-0) (aC aF)/\True)/\∀ (i:{ k:Nat // k<=Int.toNat m }),asT Bool true=true/\ifB (decide (aA (aB i)<aA (aH none (List.replicate (Int.toNat m) (aC aF))))) ((n=n/\0<=n/\n<=1000000000/\0<=aA (aB i)/\aA (aB i)<aA (aH none (aS (aB i) (Int.toNat n) f++List.replicate (Int.toNat m-aB i) (aC aF)))/\Int.toNat (aA (aB i))<aH none (aS (aB i) (Int.toNat n) f++List.replicate (Int.toNat m-aB i) (aC aF))/\True)/\(0<=aA (aB i)/\aA (aB i)<aA (aH (some (List.set (aW none (aS (aB i) (Int.toNat n) f++List.replicate (Int.toNat m-aB i) (aC aF))) (Int.toNat (aA (aB i))) (List.length (aS (aB i) (Int.toNat n) f++List.replicate (Int.toNat m-aB i) (aC aF))))) (aS (aB i) (Int.toNat n) f++List.replicate (Int.toNat m-aB i) (aC aF)++List.replicate (Int.toNat n) { ok:=false,x:=0,g:=aC Nat,h:=aC Nat }::aC (List aF)))/\Int.toNat (aA (aB i))<aH (some (List.set (aW none (aS (aB i) (Int.toNat n) f++List.replicate (Int.toNat m-aB i) (aC aF))) (Int.toNat (aA (aB i))) (List.length (aS (aB i) (Int.toNat n) f++List.replicate (Int.toNat m-aB i) (aC aF))))) (aS (aB i) (Int.toNat n) f++List.replicate (Int.toNat m-aB i) (aC aF)++List.replicate (Int.toNat n) { ok:=false,x:=0,g:=aC Nat,h:=aC Nat }::aC (List aF))/\True)/\(asT Int 0=0/\List.Nodup (List.set (aW none (aS (aB i) (Int.toNat n) f++List.replicate (Int.toNat m-aB i) (aC aF))) (Int.toNat (aA (aB i))) (List.length (aS (aB i) (Int.toNat n) f++List.replicate (Int.toNat m-aB i) (aC aF))))/\List.map (fun(i_1:Nat)=>List.getD (aS (aB i) (Int.toNat n) f++List.replicate (Int.toNat m-aB i) (aC aF)++List.replicate (Int.toNat n) { ok:=false,x:=0,g:=aC Nat,h:=aC Nat }::aC (List aF)) i_1 (aC aF)) (List.set (aW none (aS (aB i) (Int.toNat n) f++List.replicate (Int.toNat m-aB i) (aC aF))) (Int.toNat (aA (aB i))) (List.length (aS (aB i) (Int.toNat n) f++List.replicate (Int.toNat m-aB i) (aC aF))))=aS (aB i) (Int.toNat n) f++(List.map (fun(j:Nat)=>dR (f (aB i) j)) (List.range 0)++List.replicate (Int.toNat n-0) cZ)::aC (List aF)++List.replicate (Int.toNat m-aB i-1) (aC aF)/\True)/\∀ (i_1:{ q:Nat // q<=Int.toNat n }),asT Bool true=true/\ifB (decide (aA (aB i_1)<aA (List.length (rowAt (aS (aB i) (Int.toNat n) f++List.replicate (Int.toNat m-aB i) (aC aF)++List.replicate (Int.toNat n) { ok:=false,x:=0,g:=aC Nat,h:=aC Nat }::aC (List aF)) (nameAt (some (List.set (aW none (aS (aB i) (Int.toNat n) f++List.replicate (Int.toNat m-aB i) (aC aF))) (Int.toNat (aA (aB i))) (List.length (aS (aB i) (Int.toNat n) f++List.replicate (Int.toNat m-aB i) (aC aF))))) (Int.toNat (aA (aB i)))))))) ((0<=aA (aB i)/\aA (aB i)<aA (aH none (aS (aB i) (Int.toNat n) f++(List.map (fun(j:Nat)=>dR (f (aB i) j)) (List.range (aB i_1))++List.replicate (Int.toNat n-aB i_1) cZ)::aC (List aF)++List.replicate (Int.toNat m-aB i-1) (aC aF)))/\Int.toNat (aA (aB i))<aH none (aS (aB i) (Int.toNat n) f++(List.map (fun(j:Nat)=>dR (f (aB i) j)) (List.range (aB i_1))++List.replicate (Int.toNat n-aB i_1) cZ)::aC (List aF)++List.replicate (Int.toNat m-aB i-1) (aC aF))/\P (aA (aB i)) (aA (aB i_1))/\0<=aA (aB i_1)/\aA (aB i_1)<aA (List.length (rowAt (aS (aB i) (Int.toNat n) f++(List.map (fun(j:Nat)=>dR (f (aB i) j)) (List.range (aB i_1))++List.replicate (Int.toNat n-aB i_1) cZ)::aC (List aF)++List.replicate (Int.toNat m-aB i-1) (aC aF)) (nameAt none (Int.toNat (aA (aB i))))))/\Int.toNat (aA (aB i_1))<List.length (rowAt (aS (aB i) (Int.toNat n) f++(List.map (fun(j:Nat)=>dR (f (aB i) j)) (List.range (aB i_1))++List.replicate (Int.toNat n-aB i_1) cZ)::aC (List aF)++List.replicate (Int.toNat m-aB i-1) (aC aF)) (nameAt none (Int.toNat (aA (aB i)))))/\True)/\∃ (i':{ q:Nat // q<=Int.toNat n }),Int.toNat n-aB i'<Int.toNat n-aB i_1/\IntKind.wrap IntKind.i64 (aA (aB i_1)+1)=aA (aB i')/\List.set (aS (aB i) (Int.toNat n) f++(List.map (fun(j:Nat)=>dR (f (aB i) j)) (List.range (aB i_1))++List.replicate (Int.toNat n-aB i_1) cZ)::aC (List aF)++List.replicate (Int.toNat m-aB i-1) (aC aF)) (nameAt none (Int.toNat (aA (aB i)))) (List.set (rowAt (aS (aB i) (Int.toNat n) f++(List.map (fun(j:Nat)=>dR (f (aB i) j)) (List.range (aB i_1))++List.replicate (Int.toNat n-aB i_1) cZ)::aC (List aF)++List.replicate (Int.toNat m-aB i-1) (aC aF)) (nameAt none (Int.toNat (aA (aB i))))) (Int.toNat (aA (aB i_1))) (dR (f (Int.toNat (aA (aB i))) (Int.toNat (aA (aB i_1))))))=aS (aB i) (Int.toNat n) f++(List.map (fun(j:Nat)=>dR (f (aB i) j)) (List.range (aB i'))++List.replicate (Int.toNat n-aB i') cZ)::aC (List aF)++List.replicate (Int.toNat m-aB i-1) (aC aF)/\True) (∃ (i':{ k:Nat // k<=Int.toNat m }),Int.toNat m-aB i'<Int.toNat m-aB i/\IntKind.wrap IntKind.i64 (aA (aB i)+1)=aA (aB i')/\aS (aB i) (Int.toNat n) f++(List.map (fun(j:Nat)=>dR (f (aB i) j)) (List.range (aB i_1))++List.replicate (Int.toNat n-aB i_1) cZ)::aC (List aF)++List.replicate (Int.toNat m-aB i-1) (aC aF)=aS (aB i') (Int.toNat n) f++List.replicate (Int.toNat m-aB i') (aC aF)/\True)) (Fin (aS (aB i) (Int.toNat n) f++List.replicate (Int.toNat m-aB i) (aC aF)))
theorem lZ {R C:Nat} {f:Nat->Nat->Rat} {P:Int->Int->Prop} {Fin:MR->Prop} (r2:R<=1000) (c2:C<=1000) (hP:∀ i j:Nat,i<R->j<C->P i j) (hF:Fin (aS R C f)):tK R C f P Fin:=by
 unfold tK
 have hZ:(⟨false,0,[],[]⟩:aF)=cZ:=rfl
 dsimp only[aA,asT,aB,aC] at *
 simp only[hZ,Int.toNat_natCast,bG,decide_eq_true_eq,decide_eq_false_iff_not,true_and,and_true]
 have hX:∀ k,k<=R->(aS k C f++List.replicate (R-k) ([]:List aF)).length=R:=fun k hk=>by rw[List.length_append,aU,List.length_replicate];omega
 have hY:∀ k (Z:List aF),k<R->(aS k C f++[Z]++List.replicate (R-k-1) ([]:List aF)).length=R:=fun k Z hk=>by rw[List.length_append,List.length_append,aU,List.length_replicate];simp;omega
 refine⟨by omega,by rw[Nat.sub_zero],fun i=>⟨fun h1=>?_,fun h1=>?_⟩⟩
 ·have hi:i.1<R:=by simpa [aH] using h1
  simp only[aH,nameAt,aW,hX i.1 i.2,hY i.1 _ hi,List.length_set,List.length_range]
  have e1:((List.range R).set i.1 R).getD i.1 0=R:=by simp[List.getD_eq_getElem?_getD,hi]
  have e2:rowAt (aS i.1 C f++List.replicate (R-i.1) []++[List.replicate C cZ]) R=List.replicate C cZ:=by
   have:=a4P (T:=[]) (hX i.1 i.2) (List.replicate C cZ);rwa [List.append_nil] at this
  have e3:=a8P (aS i.1 C f++List.replicate (R-i.1) []) (List.replicate C cZ) (k:=i.1) (by rw[hX i.1 i.2];exact hi)
  rw[hX i.1 i.2,a8Q (aU _ _ _) hi] at e3
  rw[e1,e2,e3,List.length_replicate]
  refine⟨⟨by omega,by omega,by omega,by omega,hi⟩,⟨by omega,by omega,hi⟩,⟨b1M R i.1,by simp⟩,fun q=>⟨fun h2=>?_,fun h2=>?_⟩⟩
  ·have hq:q.1<C:=by omega
   have hl:(List.map (fun j=>dR (f i.1 j)) (List.range q.1)++List.replicate (C-q.1) cZ).length=C:=by simp;omega
   rw[a4P (aU _ _ _),hl]
   refine⟨⟨by omega,by omega,hi,hP _ _ hi hq,by omega,by omega,hq⟩,⟨q.1+1,by omega⟩,by simp only;omega,by rw[bH (by omega) (by omega)];rfl,?_⟩
   rw[a8S (aU _ _ _),a8R (fun j=>dR (f i.1 j)) cZ hq]
  ·have hq:q.1=C:=by have:=q.2;omega
   refine⟨⟨i.1+1,by omega⟩,by simp only;omega,by rw[bH (by omega) (by omega)];rfl,?_⟩
   rw[hq,Nat.sub_self,List.replicate_zero,List.append_nil,a6W,Nat.sub_sub]
 ·have hi:i.1=R:=by have:=i.2;simp only[aH,List.length_replicate] at h1;omega
  rw[hi,Nat.sub_self,List.replicate_zero,List.append_nil]
  exact hF
def rO (m n:Int) (f:Nat->Nat->Rat):List Ann:=[.inv {k:Nat // k<=m.toNat} (fun k=>[(14,.val tI (k.1:Int))]) (fun k=>[(11,.mat 32 64 tR none (aS k.1 n.toNat f++List.replicate (m.toNat-k.1) []) 0)]) (fun k=>m.toNat-k.1) ⟨0,by omega⟩ (fun k=>[
 .inv {q:Nat // q<=n.toNat} (fun q=>[(27,.val tI (q.1:Int)),(20,.any),(21,.any),(24,.any),(25,.any)]) (fun q=>[(11,.mat 32 64 tR none (aS k.1 n.toNat f++[(List.range q.1).map (fun j=>dR (f k.1 j))++List.replicate (n.toNat-q.1) cZ]++List.replicate (m.toNat-k.1-1) []) 0)]) (fun q=>n.toNat-q.1) ⟨0,by omega⟩ (fun _=>[])])]
abbrev LKm:LK:=.mat 32 64 tR
def XY (T:List Ty) (ok:(nest T).den->Int->Int->Prop) (g:(nest T).den->Nat->Nat->Rat):Ctr:=⟨tI::tI::T,[tQ],fun x=>ok x.2.2 x.1 x.2.1,fun x=>(g x.2.2 (show Int from x.1).toNat (show Int from x.2.1).toNat,())⟩
def zX (T:List Ty) (ok:(nest T).den->Int->Int->Prop) (x:(nest [tI,tI,nest T]).den):Prop:=∃ R C:Nat,(show Int from x.1)=R/\(show Int from x.2.1)=C/\R<=1000/\C<=1000/\∀ i j:Nat,i<R->j<C->ok x.2.2.1 i j
def GZ (F:FuncId) (T:List Ty) (ok:(nest T).den->Int->Int->Prop) (g:(nest T).den->Nat->Nat->Rat):yT:=.mk LKm [tI,tI,.clo F (nest T)] (fun x=>zX T ok x) (fun x=>aS (show Int from x.1).toNat (show Int from x.2.1).toNat (g x.2.2.1))
def sm:Nat->(Nat->Rat)->Rat
 | 0,_=>0
 | n+1,f=>sm n f+f n
theorem iJ {f g:Nat->Rat}:∀ n,(∀ i,i<n->f i=g i)->sm n f=sm n g
 | 0,_=>rfl
 | n+1,h=>by show sm n f+f n=sm n g+g n;rw[iJ n (fun i hi=>h i (by omega)),h n (by omega)]
theorem mZ {f:Nat->Rat}:∀ n,(∀ i,i<n->f i=0)->sm n f=0
 | 0,_=>rfl
 | n+1,h=>by show sm n f+f n=0;rw[mZ n (fun i hi=>h i (by omega)),h n (by omega)];grind
theorem BA (f g:Nat->Rat):∀ n,sm n (fun i=>f i+g i)=sm n f+sm n g
 | 0=>by show (0:Rat)=0+0;grind
 | n+1=>by show sm n _+(f n+g n)=(sm n f+f n)+(sm n g+g n);rw[BA f g n];grind
theorem LD (k:Rat) (f:Nat->Rat):∀ n,sm n (fun i=>k*f i)=k*sm n f
 | 0=>by show (0:Rat)=k*0;grind
 | n+1=>by show sm n _+k*f n=k*(sm n f+f n);rw[LD k f n];grind
theorem a0c (k:Rat) (f:Nat->Rat) (n:Nat):sm n (fun i=>f i*k)=sm n f*k:=by
 rw[show (fun i=>f i*k)=(fun i=>k*f i) from funext fun i=>by grind,LD];grind
theorem b0h (f g:Nat->Rat) (n:Nat):sm n (fun i=>f i-g i)=sm n f-sm n g:=by
 rw[show (fun i=>f i-g i)=(fun i=>f i+(-1)*g i) from funext fun i=>by grind,BA f (fun i=>(-1)*g i),LD];grind
theorem a0d (f:Nat->Nat->Rat) (m:Nat):∀ n,sm n (fun i=>sm m (fun j=>f i j))=sm m (fun j=>sm n (fun i=>f i j))
 | 0=>(mZ m (fun j _=>rfl)).symm
 | n+1=>by
  show sm n (fun i=>sm m (fun j=>f i j))+sm m (fun j=>f n j)=sm m (fun j=>sm n (fun i=>f i j)+f n j)
  rw[a0d f m n,BA]
theorem LG {f:Nat->Rat} (k:Nat):∀ n,k<n->(∀ i,i<n->i≠k->f i=0)->sm n f=f k
 | 0,h,_=>by omega
 | n+1,h,hz=>by
  show sm n f+f n=f k
  by_cases e:k=n
  ·rw[mZ n (fun i hi=>hz i (by omega) (by omega)),e];grind
  ·rw[LG k n (by omega) (fun i hi hk=>hz i (by omega) hk),hz n (by omega) (by omega)];grind
theorem XA {f:Nat->Rat}:∀ n,(∀ i,i<n->0<=f i)->0<=sm n f
 | 0,_=>by show (0:Rat)<=0;grind
 | n+1,h=>by
  have h1:=XA n (fun i hi=>h i (by omega));have h2:=h n (by omega)
  show 0<=sm n f+f n;grind
theorem LC {x:Rat} (h:x≠0):x / x=1:=by rw[Rat.div_def,Rat.mul_inv_cancel x h]
theorem sq_nonneg (x:Rat):0<=x*x:=by
 rcases Rat.le_total (a:=0) (b:=x) with h|h
 ·exact Rat.mul_nonneg h h
 ·have:=Rat.mul_nonneg (a:=-x) (b:=-x) (by grind) (by grind);grind
theorem b3u {f:Nat->Rat}:∀ n,sm n (fun i=>f i*f i)=0->∀ i,i<n->f i=0
 | 0,_,i,h=>by omega
 | n+1,h,i,hi=>by
  have h1:=XA (f:=fun i=>f i*f i) n (fun i _=>sq_nonneg (f i))
  have h2:=sq_nonneg (f n)
  have h:sm n (fun i=>f i*f i)+f n*f n=0:=h
  have h3:sm n (fun i=>f i*f i)=0:=by grind
  have h4:f n*f n=0:=by grind
  by_cases e:i=n
  ·rw[e];grind
  ·exact b3u n h3 i (by omega)
theorem b0f (f:Nat->Rat) (m:Nat):∀ n,sm (m+n) f=sm m f+sm n (fun i=>f (m+i))
 | 0=>by show sm m f=sm m f+0;grind
 | n+1=>by show sm (m+n) f+f (m+n)=sm m f+(sm n (fun i=>f (m+i))+f (m+n));rw[b0f f m n];grind
abbrev Mt:=Nat->Nat->Rat
def mm (n:Nat) (a b:Mt):Mt:=fun i j=>sm n fun k=>a i k*b k j
def mv (n:Nat) (a:Mt) (x:Nat->Rat):Nat->Rat:=fun i=>sm n fun k=>a i k*x k
def tr (a:Mt):Mt:=fun i j=>a j i
def idm:Mt:=fun i j=>if i=j then 1 else 0
def fk (e:Mt) (j:Nat):Nat->Nat->Nat
 | r,0=>r
 | r,n+1=>if e r j=0 then fk e j (r+1) n else r
theorem VO (e:Mt) (j:Nat):∀ n r,r<=fk e j r n/\fk e j r n<=r+n
 | 0,r=>⟨Nat.le_refl _,Nat.le_refl _⟩
 | n+1,r=>by
  have:=VO e j n (r+1)
  unfold fk;split<;>omega
theorem OA (e:Mt) (j:Nat):∀ n r i,r<=i->i<fk e j r n->e i j=0
 | 0,r,i,h1,h2=>by unfold fk at h2;omega
 | n+1,r,i,h1,h2=>by
  unfold fk at h2;split at h2
  ·rename_i h0
   by_cases h:i=r
   ·rw[h];exact h0
   ·exact OA e j n (r+1) i (by omega) h2
  ·omega
theorem a0P (e:Mt) (j:Nat):∀ n r,fk e j r n<r+n->e (fk e j r n) j≠0
 | 0,r,h=>by unfold fk at h;omega
 | n+1,r,h=>by
  unfold fk at h ⊢;split at h
  ·rename_i h0;rw[if_pos h0];exact a0P e j n (r+1) (by omega)
  ·rename_i h0;rw[if_neg h0];exact h0
theorem a0O (e:Mt) (j r n k:Nat) (h1:r<=k) (h2:k<=r+n) (hz:∀ i,r<=i->i<k->e i j=0) (hn:k<r+n->e k j≠0):fk e j r n=k:=by
 have ⟨a1,a2⟩:=VO e j n r
 rcases Nat.lt_trichotomy (fk e j r n) k with h|h|h
 ·exact absurd (hz _ a1 h) (a0P e j n r (by omega))
 ·exact h
 ·exact absurd (OA e j n r k h1 h) (hn (by omega))
theorem a7Y {e f:Mt} {j:Nat} (n r:Nat) (h:∀ i,r<=i->i<r+n->e i j=f i j):fk e j r n=fk f j r n:=by
 have ⟨a1,a2⟩:=VO f j n r
 refine a0O e j r n _ a1 a2 (fun i h1 h2=>?_) (fun h1=>?_)
 ·rw[h i h1 (by omega)];exact OA f j n r i h1 h2
 ·rw[h _ a1 h1];exact a0P f j n r h1
def iC (e:Mt) (r k:Nat):Mt:=fun i=>if i=r then e k else if i=k then e r else e i
def jZ (e:Mt) (r k j:Nat):Mt:=fun i c=>if i=r then e k c / e k j else iC e r k i c-iC e r k i j*(e k c / e k j)
def red (R:Nat) (e:Mt):Nat->Mt × List Nat
 | 0=>(e,[])
 | n+1 =>
  if fk (red R e n).1 n (red R e n).2.length (R-(red R e n).2.length)=R then red R e n
  else (jZ (red R e n).1 (red R e n).2.length (fk (red R e n).1 n (red R e n).2.length (R-(red R e n).2.length)) n,(red R e n).2++[n])
structure Ech (R:Nat) (e:Mt) (n:Nat) (m:Mt) (p:List Nat):Prop where
 le:p.length<=R
 lt:∀ j ∈ p,j<n
 nd:p.Nodup
 unit:∀ t (h:t<p.length) i,i<R->m i p[t]=if i=t then 1 else 0
 rest:∀ i,p.length<=i->i<R->∀ c,c<n->m i c=0
 sol:∀ C (x:Nat->Rat),(∀ i,i<R->mv C e x i=0)↔(∀ i,i<R->mv C m x i=0)
theorem a0f (m:Mt) (r k j C:Nat) (x:Nat->Rat) (i:Nat):mv C (jZ m r k j) x i=if i=r then mv C m x k / m k j else mv C (iC m r k) x i-iC m r k i j*(mv C m x k / m k j):=by
 unfold mv jZ
 by_cases h:i=r
 ·simp only[if_pos h]
  rw[show (fun c=>m k c / m k j*x c)=(fun c=>m k c*x c*(m k j)⁻¹) from funext fun c=>by rw[Rat.div_def];grind,a0c,Rat.div_def]
 ·simp only[if_neg h]
  rw[show (fun c=>(iC m r k i c-iC m r k i j*(m k c / m k j))*x c)=(fun c=>iC m r k i c*x c-(iC m r k i j*(m k j)⁻¹)*(m k c*x c)) from funext fun c=>by rw[Rat.div_def];grind,b0h (fun c=>iC m r k i c*x c) (fun c=>(iC m r k i j*(m k j)⁻¹)*(m k c*x c)),LD,Rat.div_def];grind
theorem b0m (m:Mt) (R r k j C:Nat) (x:Nat->Rat) (hr:r<R) (hk:k<R) (hz:m k j≠0):(∀ i,i<R->mv C m x i=0)↔(∀ i,i<R->mv C (jZ m r k j) x i=0):=by
 have hsw:∀ i,mv C (iC m r k) x i=if i=r then mv C m x k else if i=k then mv C m x r else mv C m x i:=fun i=>by
  unfold mv iC;by_cases h1:i=r
  ·simp only[if_pos h1]
  ·by_cases h2:i=k
   ·simp only[if_neg h1,if_pos h2]
   ·simp only[if_neg h1,if_neg h2]
 constructor
 ·intro h i hi
  rw[a0f,hsw,h k hk]
  split
  ·rw[Rat.div_def];grind
  ·have:=h i hi;have:=h r hr;rw[Rat.div_def];split<;>grind
 ·intro h
  have h1:=h r hr
  rw[a0f,if_pos rfl,Rat.div_def] at h1
  have hkz:mv C m x k=0:=by
   have:mv C m x k=mv C m x k*(m k j)⁻¹*m k j:=by rw[Rat.mul_assoc,Rat.inv_mul_cancel _ hz];grind
   rw[this,h1];grind
  have hA:∀ i,i<R->i≠r->(if i=k then mv C m x r else mv C m x i)=0:=fun i hi hir=>by
   have:=h i hi
   rw[a0f,if_neg hir,hsw,if_neg hir,hkz,Rat.div_def] at this
   grind
  intro i hi
  by_cases e1:i=k
  ·rw[e1];exact hkz
  ·by_cases e2:i=r
   ·have:=hA k hk (by omega)
    rw[if_pos rfl] at this;rw[e2];exact this
   ·have:=hA i hi e2
    rw[if_neg e1] at this;exact this
theorem gX (R:Nat) (e:Mt):∀ n,Ech R e n (red R e n).1 (red R e n).2
 | 0=>⟨Nat.zero_le _,fun j h=>(nomatch h),List.nodup_nil,fun t h=>absurd h (Nat.not_lt_zero _),fun i _ _ c h=>absurd h (Nat.not_lt_zero _),fun _ _=>Iff.rfl⟩
 | n+1=>by
  have ih:=gX R e n
  rw[show red R e (n+1)=(if fk (red R e n).1 n (red R e n).2.length (R-(red R e n).2.length)=R then ((red R e n).1,(red R e n).2) else (jZ (red R e n).1 (red R e n).2.length (fk (red R e n).1 n (red R e n).2.length (R-(red R e n).2.length)) n,(red R e n).2++[n])) from rfl]
  generalize (red R e n).1=m at *
  generalize (red R e n).2=p at *
  generalize hk:fk m n p.length (R-p.length)=k
  have ⟨k1,k2⟩:=VO m n (R-p.length) p.length
  have k3:=OA m n (R-p.length) p.length
  have k4:=a0P m n (R-p.length) p.length
  rw[hk] at k1 k2 k3 k4
  have hle:=ih.le
  by_cases hR:k=R
  ·rw[if_pos hR]
   exact⟨ih.le,fun j hj=>Nat.lt_succ_of_lt (ih.lt j hj),ih.nd,ih.unit,fun i h1 h2 c hc=>by
    by_cases e1:c=n
    ·rw[e1];exact k3 i h1 (by omega)
    ·exact ih.rest i h1 h2 c (by omega),ih.sol⟩
  ·rw[if_neg hR]
   have hz:m k n≠0:=k4 (by omega)
   refine⟨by simp;omega,fun j hj=>?_,?_,fun t ht i hi=>?_,fun i h1 h2 c hc=>?_,fun C x=>?_⟩
   ·rcases List.mem_append.mp hj with h|h
    ·exact Nat.lt_succ_of_lt (ih.lt j h)
    ·rw[List.mem_singleton.mp h];omega
   ·refine List.nodup_append.mpr ⟨ih.nd,by simp,fun a ha b hb=>?_⟩
    have:=ih.lt a ha;rw[List.mem_singleton.mp hb];omega
   ·have ht:t<p.length+1:=by simpa using ht
    show jZ m p.length k n i (p++[n])[t]=_
    by_cases e1:t=p.length
    ·have hc:(p++[n])[t]=n:=by simp[e1]
     rw[hc,e1];unfold jZ
     by_cases e2:i=p.length
     ·rw[if_pos e2,if_pos e2];exact LC hz
     ·rw[if_neg e2,if_neg e2,LC hz];grind
    ·have hl:t<p.length:=by omega
     have hc:(p++[n])[t]=p[t]:=by rw[List.getElem_append_left hl]
     have hkt:=ih.unit t hl k (by omega)
     rw[if_neg (show ¬ k=t by omega)] at hkt
     rw[hc];unfold jZ iC
     rw[hkt]
     by_cases e2:i=p.length
     ·rw[if_pos e2,if_neg (by omega),Rat.div_def];grind
     ·simp only[if_neg e2]
      by_cases e3:i=k
      ·simp only[if_pos e3]
       rw[ih.unit t hl p.length (by omega),if_neg (by omega),if_neg (by omega),Rat.div_def];grind
      ·simp only[if_neg e3]
       rw[ih.unit t hl i hi,Rat.div_def];grind
   ·have h1:p.length+1<=i:=by simpa using h1
    show jZ m p.length k n i c=0
    have hsz:∀ c,c<n->iC m p.length k i c=0:=fun c hc=>by
     unfold iC;rw[if_neg (by omega)]
     split
     ·exact ih.rest p.length (Nat.le_refl _) (by omega) c hc
     ·exact ih.rest i (by omega) h2 c hc
    unfold jZ;rw[if_neg (by omega)]
    by_cases e1:c=n
    ·rw[e1,LC hz];grind
    ·rw[hsz c (by omega),ih.rest k k1 (by omega) c (by omega),Rat.div_def];grind
   ·rw[ih.sol C x];exact b0m m R p.length k n C x (by omega) (by omega) hz
section
theorem sD {p:List Nat} (h:p.Nodup) {t:Nat} (ht:t<p.length):p.idxOf p[t]=t:=by
 have h1:p.idxOf p[t]<p.length:=List.idxOf_lt_length_iff.mpr (List.getElem_mem ht)
 have h2:p[p.idxOf p[t]]=p[t]:=List.getElem_idxOf h1
 exact(List.getElem_inj h).mp h2
theorem ZF {p:List Nat} {c:Nat} (h:c ∈ p):p.idxOf c<p.length/\p.getD (p.idxOf c) 0=c:=by
 have h1:p.idxOf c<p.length:=List.idxOf_lt_length_iff.mpr h
 refine⟨h1,?_⟩
 rw[List.getD_eq_getElem?_getD,List.getElem?_eq_getElem h1];exact List.getElem_idxOf h1
theorem b0g {n:Nat}:∀ (p:List Nat),p.Nodup->(∀ j ∈ p,j<n)->sm n (fun c=>if c ∈ p then 1 else 0)=(p.length:Nat)
 | [],_,_=>mZ n (fun c _=>rfl)
 | a::p,hd,hl=>by
  have h1:=b0g p (List.nodup_cons.mp hd).2 (fun j hj=>hl j (List.mem_cons_of_mem _ hj))
  have h2:sm n (fun c=>if c=a then (1:Rat) else 0)=1:=by
   rw[LG a n (hl a (List.mem_cons_self ..)) (fun i _ hi=>if_neg hi),if_pos rfl]
  have h3:=(List.nodup_cons.mp hd).1
  rw[show (fun c=>if c ∈ a::p then (1:Rat) else 0)=(fun c=>(if c=a then (1:Rat) else 0)+(if c ∈ p then 1 else 0)) from funext fun c=>by
   by_cases e:c=a
   ·subst e;rw[if_pos (List.mem_cons_self ..),if_pos rfl,if_neg h3];grind
   ·by_cases e2:c ∈ p
    ·rw[if_pos (List.mem_cons_of_mem _ e2),if_neg e,if_pos e2];grind
    ·rw[if_neg (by simp[e,e2]),if_neg e,if_neg e2];grind,BA,h1,h2,List.length_cons]
  grind
theorem a5u:∀ n,sm n (fun _=>1)=(n:Nat)
 | 0=>rfl
 | n+1=>by show sm n (fun _=>1)+1=_;rw[a5u n];grind
def frees (n:Nat) (p:List Nat):List Nat:=(List.range n).filter (fun c=>decide (c ∉ p))
theorem a5t (p:List Nat):∀ n,sm n (fun c=>if c ∈ p then 0 else 1)=((frees n p).length:Nat)
 | 0=>rfl
 | n+1=>by
  show sm n (fun c=>if c ∈ p then 0 else 1)+(if n ∈ p then 0 else 1)=_
  rw[a5t p n]
  unfold frees
  rw[List.range_succ,List.filter_append,List.length_append]
  by_cases h:n ∈ p
  ·simp[h];grind
  ·simp[h]
theorem rZ {n:Nat} {p:List Nat} (hd:p.Nodup) (hl:∀ j ∈ p,j<n):(frees n p).length+p.length=n:=by
 have h1:=b0g p hd hl
 have h2:=a5t p n
 have h3:=a5u n
 have h4:=BA (fun c=>if c ∈ p then (1:Rat) else 0) (fun c=>if c ∈ p then (0:Rat) else 1) n
 rw[show (fun c=>(if c ∈ p then (1:Rat) else 0)+(if c ∈ p then (0:Rat) else 1))=(fun _=>1) from funext fun c=>by split<;>grind,h1,h2,h3] at h4
 have h5:((n:Nat):Rat)=((p.length+(frees n p).length:Nat):Rat):=by rw[h4];push_cast;rfl
 have:=Rat.natCast_inj.mp h5
 omega
theorem BQ {n:Nat} {p:List Nat} {c:Nat}:c ∈ frees n p↔c<n/\c ∉ p:=by unfold frees;simp
theorem a8a (n:Nat) (p:List Nat):(frees n p).Nodup:=List.Pairwise.filter _ List.nodup_range
section
variable {R n:Nat} {e m:Mt} {p:List Nat}
theorem Ech.row (E:Ech R e n m p) {t:Nat} (ht:t<p.length) (x:Nat->Rat):mv n m x t=x p[t]+sm n (fun c=>if c ∈ p then 0 else m t c*x c):=by
 have hl:=E.le
 have h1:sm n (fun c=>if c ∈ p then m t c*x c else 0)=x p[t]:=by
  rw[LG p[t] n (E.lt _ (List.getElem_mem ht)) (fun c _ hc=>?_),if_pos (List.getElem_mem ht),E.unit t ht t (by omega),if_pos rfl]
  ·grind
  ·by_cases h:c ∈ p
   ·rw[if_pos h]
    have ⟨a1,a2⟩:=ZF h
    have a3:p[p.idxOf c]=c:=List.getElem_idxOf a1
    have:=E.unit (p.idxOf c) a1 t (by omega)
    rw[a3,if_neg (fun h=>hc (by rw[<-a3];congr 1;exact h.symm))] at this
    rw[this];grind
   ·rw[if_neg h]
 rw[<-h1,<-BA]
 exact iJ n fun c _=>by split<;>grind
theorem Ech.low (E:Ech R e n m p) {i:Nat} (h1:p.length<=i) (h2:i<R) (x:Nat->Rat):mv n m x i=0 :=
 mZ n fun c hc=>by rw[E.rest i h1 h2 c hc];grind
def IG (m:Mt) (p:List Nat) (j:Nat):Nat->Rat:=fun c=>if c=j then 1 else if c ∈ p then-m (p.idxOf c) j else 0
theorem KU (m:Mt) (p:List Nat) (j:Nat):IG m p j j=1:=if_pos rfl
theorem WH {m:Mt} {p:List Nat} {j c:Nat} (h:c ∉ p):IG m p j c=if c=j then 1 else 0:=by
 unfold IG;rw[if_neg h]
theorem a9k (E:Ech R e n m p) {j t:Nat} (ht:t<p.length) (hj:j ∉ p):IG m p j p[t]=- m t j:=by
 unfold IG
 rw[if_neg (fun h=>hj (by rw[<-h];exact List.getElem_mem ht)),if_pos (List.getElem_mem ht),sD E.nd ht]
theorem Ech.null (E:Ech R e n m p) {j:Nat} (hn:j<n) (hj:j ∉ p):∀ i,i<R->mv n e (IG m p j) i=0:=by
 refine(E.sol n _).mpr fun i hi=>?_
 by_cases h:i<p.length
 ·rw[E.row h,a9k E h hj,LG j n hn (fun c _ hc=>?_),if_neg hj,KU]
  ·grind
  ·split
   ·rfl
   ·rename_i h;rw[WH h,if_neg hc];grind
 ·exact E.low (by omega) hi _
theorem Ech.span (E:Ech R e n m p) {x:Nat->Rat} (hx:∀ i,i<R->mv n e x i=0) (hf:∀ c,c<n->c ∉ p->x c=0):∀ c,c<n->x c=0:=by
 intro c hc
 by_cases h:c ∈ p
 ·have ⟨a1,a2⟩:=ZF h
  have a3:p[p.idxOf c]=c:=List.getElem_idxOf a1
  have h1:=(E.sol n x).mp hx (p.idxOf c) (Nat.lt_of_lt_of_le a1 E.le)
  rw[E.row a1,a3,mZ n (fun c hc=>?_)] at h1
  ·grind
  ·split
   ·rfl
   ·rename_i h;rw[hf c hc h];grind
 ·exact hf c hc h
theorem Ech.full (E:Ech R e n m p) (h:p.length=n) {c:Nat} (hc:c<n):c ∈ p:=by
 have h1:=rZ E.nd E.lt
 by_cases hm:c ∈ p
 ·exact hm
 ·have:=List.length_pos_of_mem (BQ.mpr ⟨hc,hm⟩);omega
theorem Ech.inj (E:Ech R e n m p):p.length=n↔∀ x,(∀ i,i<R->mv n e x i=0)->∀ c,c<n->x c=0:=by
 constructor
 ·intro h x hx
  exact E.span hx (fun c hc hn=>absurd (E.full h hc) hn)
 ·intro h
  have h1:=rZ E.nd E.lt
  rcases Nat.eq_zero_or_pos (frees n p).length with h0|h0
  ·omega
  ·have ⟨h2,h3⟩:=BQ.mp (List.getElem_mem h0)
   have:=h _ (E.null h2 h3) _ h2
   rw[KU] at this;exact absurd this (by decide)
theorem Ech.col (E:Ech R e n m p) {q:Nat} (hq:n<=q) (x:Nat->Rat):(∀ i,i<R->mv n e x i=e i q)↔(∀ i,i<R->mv n m x i=m i q):=by
 have key:∀ (a:Mt) i,mv (q+1) a (fun c=>if c<n then x c else if c=q then -1 else 0) i=mv n a x i-a i q:=fun a i=>by
  unfold mv
  show sm q _+_=_
  obtain⟨d,rfl⟩:∃ d,q=n+d:=⟨q-n,by omega⟩
  rw[b0f,mZ d (fun c hc=>?_),iJ n (g:=fun k=>a i k*x k) (fun c hc=>by simp only[if_pos hc])]
  ·simp only[if_neg (show ¬ n+d<n by omega)];simp only[if_true];grind
  ·simp only[if_neg (show ¬ n+c<n by omega),if_neg (show ¬ n+c=n+d by omega)];grind
 have h:=E.sol (q+1) (fun c=>if c<n then x c else if c=q then -1 else 0)
 simp only[key] at h
 constructor
 ·intro h1 i hi;have:=h.mp (fun i hi=>by rw[h1 i hi];grind) i hi;grind
 ·intro h1 i hi;have:=h.mpr (fun i hi=>by rw[h1 i hi];grind) i hi;grind
def xs (m:Mt) (p:List Nat) (q:Nat):Nat->Rat:=fun c=>if c ∈ p then m (p.idxOf c) q else 0
theorem Ech.solve (E:Ech R e n m p) {q:Nat} (hq:n<=q) (h0:∀ i,p.length<=i->i<R->m i q=0):∀ i,i<R->mv n e (xs m p q) i=e i q:=by
 refine(E.col hq _).mpr fun i hi=>?_
 by_cases h:i<p.length
 ·rw[E.row h,mZ n (fun c _=>?_)]
  ·unfold xs;rw[if_pos (List.getElem_mem h),sD E.nd h];grind
  ·split
   ·rfl
   ·rename_i h;unfold xs;rw[if_neg h];grind
 ·rw[E.low (by omega) hi,h0 i (by omega) hi]
end
theorem OL (R:Nat) (e:Mt):∀ n,(red R e n).2.length<=n/\((red R e n).2.length=n->(red R e n).2=List.range n)
 | 0=>⟨Nat.le_refl _,fun _=>rfl⟩
 | n+1=>by
  have ⟨h1,h2⟩:=OL R e n
  unfold red
  split
  ·exact⟨by omega,fun h=>by omega⟩
  ·refine⟨by simp;omega,fun h=>?_⟩
   simp at h
   show _++_=_
   rw[List.range_succ,h2 h]
theorem a1L (R:Nat) (e:Mt) (n:Nat):red R e (n+1)=if fk (red R e n).1 n (red R e n).2.length (R-(red R e n).2.length)=R then red R e n
 else (jZ (red R e n).1 (red R e n).2.length (fk (red R e n).1 n (red R e n).2.length (R-(red R e n).2.length)) n,(red R e n).2++[n]):=rfl
theorem a1I {R:Nat} {e:Mt} {n:Nat} (h:(red R e n).2.length=R):∀ k,red R e (n+k)=red R e n
 | 0=>rfl
 | k+1=>by
  have ih:=a1I h k
  show red R e (n+k+1)=_
  rw[a1L,ih,if_pos (by rw[h];simp[fk])]
theorem IQ {R:Nat} {e f:Mt} {C:Nat} (h:∀ i,i<R->∀ c,c<C->e i c=f i c):∀ n,n<=C->(red R e n).2=(red R f n).2/\∀ i,i<R->∀ c,c<C->(red R e n).1 i c=(red R f n).1 i c
 | 0,_=>⟨rfl,h⟩
 | n+1,hn=>by
  have ⟨h1,h2⟩:=IQ h n (by omega)
  have hl:=(gX R e n).le
  have hk:fk (red R e n).1 n (red R e n).2.length (R-(red R e n).2.length)=fk (red R f n).1 n (red R f n).2.length (R-(red R f n).2.length):=by
   rw[h1];exact a7Y _ _ (fun i _ hi=>h2 i (by rw[<-h1] at hi;omega) n (by omega))
  have ⟨k1,k2⟩:=VO (red R e n).1 n (R-(red R e n).2.length) (red R e n).2.length
  unfold red
  rw[<-hk,<-h1]
  generalize fk (red R e n).1 n (red R e n).2.length (R-(red R e n).2.length)=k at *
  by_cases hR:k=R
  ·rw[if_pos hR,if_pos hR];exact⟨h1,h2⟩
  ·rw[if_neg hR,if_neg hR]
   refine⟨rfl,fun i hi c hc=>?_⟩
   show jZ _ _ _ _ i c=jZ _ _ _ _ i c
   have hsw:∀ c,c<C->iC (red R e n).1 (red R e n).2.length k i c=iC (red R f n).1 (red R e n).2.length k i c:=fun c hc=>by
    unfold iC;split
    ·exact h2 k (by omega) c hc
    ·split
     ·exact h2 _ (by omega) c hc
     ·exact h2 i hi c hc
   unfold jZ
   rw[h2 k (by omega) c hc,h2 k (by omega) n (by omega),hsw c hc,hsw n (by omega)]
theorem b2o {n:Nat} {e:Mt} (h:(red n e n).2.length=n) {q:Nat} (hq:n<=q):∀ i,i<n->mv n e (fun c=>(red n e n).1 c q) i=e i q:=by
 have E:=gX n e n
 have hr:=(OL n e n).2 h
 intro i hi
 rw[<-E.solve hq (fun i h1 h2=>by omega) i hi]
 refine iJ n fun c hc=>?_
 unfold xs
 rw[if_pos (E.full h hc)]
 have h3:(red n e n).2.idxOf c=c:=by
  have a1:c<(red n e n).2.length:=by omega
  have a2:(red n e n).2[c]=c:=by simp[hr]
  have:=sD E.nd a1
  rwa [a2] at this
 rw[h3]
theorem a2g {n:Nat} {a:Mt} (h:∀ x,(∀ i,i<n->mv n a x i=0)->∀ c,c<n->x c=0) (b:Nat->Rat):∃ x,∀ i,i<n->mv n a x i=b i:=by
 have E:=gX n (fun i c=>if c<n then a i c else b i) n
 have hc:∀ x i,mv n (fun i c=>if c<n then a i c else b i) x i=mv n a x i:=fun x i=>iJ n fun c hc=>by simp only[if_pos hc]
 have hl:=E.inj.mpr (fun x hx=>h x (fun i hi=>by rw[<-hc];exact hx i hi))
 refine⟨fun c=>(red n (fun i c=>if c<n then a i c else b i) n).1 c n,fun i hi=>?_⟩
 rw[<-hc,b2o hl (Nat.le_refl n) i hi,if_neg (by omega)]
end
theorem a8W (m k:Nat) (a b c:Mt):mm m (mm k a b) c=mm k a (mm m b c):=by
 funext i j;unfold mm
 rw[show (fun l=>sm k (fun q=>a i q*b q l)*c l j)=(fun l=>sm k (fun q=>a i q*b q l*c l j)) from funext fun l=>(a0c _ _ k).symm,a0d]
 refine iJ k fun q _=>?_
 rw[<-LD];exact iJ m fun l _=>by grind
def ma (a b:Mt):Mt:=fun i j=>a i j+b i j
def ms (a b:Mt):Mt:=fun i j=>a i j-b i j
def zm:Mt:=fun _ _=>0
theorem b9G (n:Nat) (a b c:Mt):mm n (ma a b) c=ma (mm n a c) (mm n b c):=by
 funext i j;unfold mm ma;rw[<-BA];exact iJ n fun k _=>by grind
structure Gau (N f:Nat) (n g:Mt):Prop where
 sym:∀ i,i<N->∀ j,j<N->n i j=n j i
 ng:∀ i,i<N->∀ j,j<f->mm N n g i j=0
 rank:(red N g f).2.length=f
 dim:f+(red N n N).2.length=N
def MS (N:Nat) (n:Mt):Mt:=fun i s=>IG (red N n N).1 (red N n N).2 ((frees N (red N n N).2).getD s 0) i
theorem FY {l:List Nat} {s:Nat} (h:s<l.length):l.getD s 0=l[s]:=by
 rw[List.getD_eq_getElem?_getD,List.getElem?_eq_getElem h];rfl
theorem a6o {N:Nat} {n:Mt} (hs:∀ i,i<N->∀ j,j<N->n i j=n j i):Gau N (frees N (red N n N).2).length n (MS N n):=by
 have E:=gX N n N
 have hfr:=rZ E.nd E.lt
 have hm:∀ s,s<(frees N (red N n N).2).length->(frees N (red N n N).2).getD s 0<N/\(frees N (red N n N).2).getD s 0 ∉ (red N n N).2:=fun s h=>by
  rw[FY h];exact BQ.mp (List.getElem_mem h)
 refine⟨hs,fun i hi j hj=>E.null (hm j hj).1 (hm j hj).2 i hi,?_,hfr⟩
 refine(gX N (MS N n) _).inj.mpr fun x hx c hc=>?_
 have h1:=hx _ (hm c hc).1
 unfold mv at h1
 rw[LG c _ hc (fun s hs hne=>?_)] at h1
 ·unfold MS at h1;rw[KU] at h1;grind
 ·unfold MS;rw[WH (hm c hc).2,if_neg (fun h=>?_)]
  ·grind
  ·rw[FY hc,FY hs] at h
   exact hne ((List.getElem_inj (a8a _ _)).mp h).symm
theorem a8Z (n f:Nat) (a b:Mt) (x:Nat->Rat) (i:Nat):mv f (mm n a b) x i=mv n a (mv f b x) i :=
 congrFun (congrFun (a8W f n a b (fun k _=>x k)) i) 0
theorem b4C (n:Nat) (a:Mt) (x y:Nat->Rat) (i:Nat):mv n a (fun c=>x c-y c) i=mv n a x i-mv n a y i:=by
 unfold mv;rw[<-b0h];exact iJ n fun k _=>by grind
theorem OI {n:Nat} {a:Mt} {x:Nat->Rat} {i:Nat} (h:∀ c,c<n->x c=0):mv n a x i=0:=mZ n fun c hc=>by rw[h c hc];grind
theorem Gau.inj {N f:Nat} {n g:Mt} (H:Gau N f n g) {z:Nat->Rat} (h:∀ i,i<N->mv f g z i=0):∀ c,c<f->z c=0:=(gX N g f).inj.mp H.rank z h
theorem Gau.nul {N f:Nat} {n g:Mt} (H:Gau N f n g) (z:Nat->Rat):∀ i,i<N->mv N n (mv f g z) i=0:=fun i hi=>by
 rw[<-a8Z];exact mZ f fun c hc=>by rw[H.ng i hi c hc];grind
theorem Gau.span {N f:Nat} {n g:Mt} (H:Gau N f n g) {x:Nat->Rat} (hx:∀ i,i<N->mv N n x i=0):∃ t,∀ i,i<N->x i=mv f g t i:=by
 have E:=gX N n N
 have hfr:=rZ E.nd E.lt
 have hf:(frees N (red N n N).2).length=f:=by have:=H.dim;omega
 have hin:∀ {y:Nat->Rat},(∀ i,i<N->mv N n y i=0)->(∀ s,s<f->y ((frees N (red N n N).2).getD s 0)=0)->∀ c,c<N->y c=0:=fun {y} hy h0=>by
  refine E.span hy fun c hc hp=>?_
  have h1:=BQ.mpr ⟨hc,hp⟩
  have ⟨a1,a2⟩:=ZF h1
  rw[hf] at a1;have:=h0 _ a1;rwa [a2] at this
 have ⟨t,ht⟩:=a2g (n:=f) (a:=fun s c=>g ((frees N (red N n N).2).getD s 0) c) (fun z hz=>H.inj (hin (H.nul z) (fun s hs=>hz s hs))) (fun s=>x ((frees N (red N n N).2).getD s 0))
 refine⟨t,fun i hi=>?_⟩
 have:=hin (y:=fun c=>x c-mv f g t c) (fun i hi=>by rw[b4C,hx i hi,H.nul t i hi];grind) (fun s hs=>by
  have:mv f g t ((frees N (red N n N).2).getD s 0)=x ((frees N (red N n N).2).getD s 0):=ht s hs
  rw[this];grind) i hi
 grind
def jV (n:Nat) (a b:Mt):Mt:=fun i j=>if j<n then a i j else b i (j-n)
structure OX (n:Nat) (a x:Mt):Prop where
 r:∀ i,i<n->∀ j,j<n->mm n a x i j=idm i j
 l:∀ i,i<n->∀ j,j<n->mm n x a i j=idm i j
theorem a1w {n:Nat} {a:Mt} {x y:Nat->Rat} {i:Nat} (h:∀ c,c<n->x c=y c):mv n a x i=mv n a y i:=iJ n fun c hc=>by rw[h c hc]
theorem b9J {n:Nat} {x:Nat->Rat} {i:Nat} (h:i<n):mv n idm x i=x i:=by
 unfold mv;rw[LG i n h (fun k _ hk=>by unfold idm;rw[if_neg (by omega)];grind)]
 unfold idm;rw[if_pos rfl];grind
theorem a3i {n:Nat} {a b:Mt} {x:Nat->Rat} {i:Nat} (h:∀ c,c<n->a i c=b i c):mv n a x i=mv n b x i:=iJ n fun c hc=>by rw[h c hc]
theorem OX.mvl {n:Nat} {a x:Mt} (H:OX n a x) (u:Nat->Rat) {i:Nat} (h:i<n):mv n x (mv n a u) i=u i:=by
 rw[<-a8Z,a3i (b:=idm) (fun c hc=>H.l i h c hc),b9J h]
theorem OX.inj {n:Nat} {a x:Mt} (H:OX n a x) {u:Nat->Rat} (h:∀ i,i<n->mv n a u i=0):∀ c,c<n->u c=0:=fun c hc=>by
 rw[<-H.mvl u hc];exact OI h
theorem b1Q (n:Nat) (a b:Mt) (x:Nat->Rat) (i:Nat):mv n (jV n a b) x i=mv n a x i:=a3i fun _ hc=>if_pos hc
theorem b1C {n:Nat} {a:Mt} (b:Mt):(red n (jV n a b) n).2.length=n↔(∀ x,(∀ i,i<n->mv n a x i=0)->∀ c,c<n->x c=0):=by
 have:=(gX n (jV n a b) n).inj
 simp only[b1Q] at this;exact this
def dt (n:Nat) (x y:Nat->Rat):Rat:=sm n fun i=>x i*y i
theorem b3b (n m:Nat) (a:Mt) (x y:Nat->Rat):dt n x (mv m a y)=dt m (mv n (tr a) x) y:=by
 unfold dt mv
 rw[iJ n (g:=fun i=>sm m fun k=>x i*(a i k*y k)) (fun i _=>by rw[LD]),a0d]
 refine iJ m fun k _=>?_
 rw[<-a0c];exact iJ n fun i _=>by show x i*(a i k*y k)=a i k*x i*y k;grind
theorem Gau.gtg {N c:Nat} {n g:Mt} (H:Gau N c n g) {u:Nat->Rat} (h:∀ s,s<c->mv N (tr g) (mv c g u) s=0):∀ s,s<c->u s=0:=by
 refine H.inj (b3u N ?_)
 show dt N (mv c g u) (mv c g u)=0
 rw[b3b];exact mZ c fun s hs=>by rw[h s hs];grind
theorem Gau.tng {N c:Nat} {n g:Mt} (H:Gau N c n g) (x:Nat->Rat) {s:Nat} (hs:s<c):mv N (tr g) (mv N n x) s=0:=by
 have h1:mv N (tr g) (mv N n x) s=dt N (fun i=>g i s) (mv N n x):=rfl
 rw[h1,b3b]
 refine mZ N fun k hk=>?_
 have h2:=H.ng k hk s hs
 have:mv N (tr n) (fun i=>g i s) k=mm N n g k s:=iJ N fun i hi=>by show n i k*g i s=n k i*g i s;rw[H.sym i hi k hk]
 rw[this,h2];grind
def nor (c:Nat) (n g:Mt):Mt:=ma n (mm c g (tr g))
theorem a9c (N c:Nat) (n g:Mt) (x:Nat->Rat) (i:Nat):mv N (nor c n g) x i=mv N n x i+mv c g (mv N (tr g) x) i:=by
 rw[<-a8Z];exact congrFun (congrFun (b9G N n (mm c g (tr g)) (fun k _=>x k)) i) 0
theorem b4B (n:Nat) (a:Mt) (x y:Nat->Rat) (i:Nat):mv n a (fun c=>x c+y c) i=mv n a x i+mv n a y i:=by
 unfold mv;rw[<-BA];exact iJ n fun k _=>by grind
theorem Gau.regular {N c:Nat} {n g:Mt} (H:Gau N c n g) {x:Nat->Rat} (h:∀ i,i<N->mv N (nor c n g) x i=0):∀ i,i<N->x i=0:=by
 have h1:∀ s,s<c->mv N (tr g) x s=0:=H.gtg fun s hs=>by
  have h2:mv N (tr g) (mv N (nor c n g) x) s=0:=OI h
  rw[a1w (fun i _=>a9c N c n g x i),b4B,H.tng x hs] at h2;grind
 have h3:∀ i,i<N->mv N n x i=0:=fun i hi=>by
  have:=h i hi;rw[a9c,OI h1] at this;grind
 have ⟨t,ht⟩:=H.span h3
 have h4:=H.gtg (u:=t) fun s hs=>by rw[<-h1 s hs];exact a1w fun i hi=>(ht i hi).symm
 intro i hi;rw[ht i hi];exact OI h4
end Go.Proofs.YtgplhbhfdgempaaGreat
