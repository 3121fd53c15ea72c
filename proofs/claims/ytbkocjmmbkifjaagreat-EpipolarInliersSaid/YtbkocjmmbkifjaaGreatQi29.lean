/-
  Lemmas for the theorem vinliers_holds, part 29 of 32.
-/
import Derived.Test.YtbkocjmmbkifjaaGreatQi28
namespace Go.Proofs.YtbkocjmmbkifjaaGreat
open Go Go.RowKit
section
theorem IZ {p:List Nat} (h:p.Nodup) {t:Nat} (ht:t<p.length):p.idxOf p[t]=t:=by
 have h1:p.idxOf p[t]<p.length:=List.idxOf_lt_length_iff.mpr (um ht)
 have h2:p[p.idxOf p[t]]=p[t]:=List.getElem_idxOf h1
 exact(List.getElem_inj h).mp h2
theorem YN {p:List Nat} {c:Nat} (h:c ∈ p):p.idxOf c<p.length/\p.getD (p.idxOf c) 0=c:=by
 have h1:p.idxOf c<p.length:=List.idxOf_lt_length_iff.mpr h
 refine⟨h1,?_⟩
 rw[dh,dn h1];exact List.getElem_idxOf h1
theorem a9V {n:Nat}:∀ (p:List Nat),p.Nodup->(∀ j ∈ p,j<n)->sm n (fun c=>if c ∈ p then 1 else 0)=(p.length:Nat)
 | [],_,_=>pG n (fun c _=>rfl)
 | a::p,hd,hl=>by
  have h1:=a9V p (List.nodup_cons.mp hd).2 (fun j hj=>hl j (iy _ hj))
  have h2:sm n (fun c=>if c=a then (1:Rat) else 0)=1:=by
   rw[QX a n (hl a (jl ..)) (fun i _ hi=>jk hi),jq rfl]
  have h3:=(List.nodup_cons.mp hd).1
  rw[show (fun c=>if c ∈ a::p then (1:Rat) else 0)=(fun c=>(if c=a then (1:Rat) else 0)+(if c ∈ p then 1 else 0)) from funext fun c=>by
   by_cases e:c=a
   ·subst e;rw[jq (jl ..),jq rfl,jk h3];grind
   ·by_cases e2:c ∈ p
    ·rw[jq (iy _ e2),jk e,jq e2];grind
    ·rw[jk (by simp[e,e2]),jk e,jk e2];grind,JQ,h1,h2,List.length_cons]
  grind
theorem a4J:∀ n,sm n (fun _=>1)=(n:Nat)
 | 0=>rfl
 | n+1=>by show sm n (fun _=>1)+1=_;rw[a4J n];grind
def frees (n:Nat) (p:List Nat):List Nat:=(List.range n).filter (fun c=>decide (c ∉ p))
theorem a4H (p:List Nat):∀ n,sm n (fun c=>if c ∈ p then 0 else 1)=((frees n p).length:Nat)
 | 0=>rfl
 | n+1=>by
  show sm n (fun c=>if c ∈ p then 0 else 1)+(if n ∈ p then 0 else 1)=_
  rw[a4H p n]
  unfold frees
  rw[Dn,List.filter_append,dw]
  by_cases h:n ∈ p
  ·simp[h];grind
  ·simp[h]
theorem IQ {n:Nat} {p:List Nat} (hd:p.Nodup) (hl:∀ j ∈ p,j<n):(frees n p).length+p.length=n:=by
 have h1:=a9V p hd hl
 have h2:=a4H p n
 have h3:=a4J n
 have h4:=JQ (fun c=>if c ∈ p then (1:Rat) else 0) (fun c=>if c ∈ p then (0:Rat) else 1) n
 rw[show (fun c=>(if c ∈ p then (1:Rat) else 0)+(if c ∈ p then (0:Rat) else 1))=(fun _=>1) from funext fun c=>by split<;>grind,h1,h2,h3] at h4
 have h5:((n:Nat):Rat)=((p.length+(frees n p).length:Nat):Rat):=by rw[h4];push_cast;rfl
 have:=Rat.natCast_inj.mp h5
 omega
theorem IU {n:Nat} {p:List Nat} {c:Nat}:c ∈ frees n p↔c<n/\c ∉ p:=by unfold frees;simp
section
variable {R n:Nat} {e m:Mt} {p:List Nat}
theorem Ech.row (E:Ech R e n m p) {t:Nat} (ht:t<p.length) (x:Nat->Rat):mv n m x t=x p[t]+sm n (fun c=>if c ∈ p then 0 else m t c*x c):=by
 have hl:=E.le
 have h1:sm n (fun c=>if c ∈ p then m t c*x c else 0)=x p[t]:=by
  rw[QX p[t] n (E.lt _ (um ht)) (fun c _ hc=>?_),jq (um ht),E.unit t ht t (by omega),jq rfl]
  ·grind
  ·by_cases h:c ∈ p
   ·rw[jq h]
    have ⟨a1,a2⟩:=YN h
    have a3:p[p.idxOf c]=c:=List.getElem_idxOf a1
    have:=E.unit (p.idxOf c) a1 t (by omega)
    rw[a3,jk (fun h=>hc (by rw[<-a3];congr 1;exact h.symm))] at this
    rw[this];grind
   ·rw[jk h]
 rw[<-h1,<-JQ]
 exact lK n fun c _=>by split<;>grind
theorem Ech.low (E:Ech R e n m p) {i:Nat} (h1:p.length<=i) (h2:i<R) (x:Nat->Rat):mv n m x i=0 :=
 pG n fun c hc=>by rw[E.rest i h1 h2 c hc];grind
def a5V (m:Mt) (p:List Nat) (j:Nat):Nat->Rat:=fun c=>if c=j then 1 else if c ∈ p then-m (p.idxOf c) j else 0
theorem UQ (m:Mt) (p:List Nat) (j:Nat):a5V m p j j=1:=jq rfl
theorem a5W {m:Mt} {p:List Nat} {j c:Nat} (h:c ∉ p):a5V m p j c=if c=j then 1 else 0:=by
 unfold a5V;rw[jk h]
theorem a9a (E:Ech R e n m p) {j t:Nat} (ht:t<p.length) (hj:j ∉ p):a5V m p j p[t]=- m t j:=by
 unfold a5V
 rw[jk (fun h=>hj (by rw[<-h];exact um ht)),jq (um ht),IZ E.nd ht]
theorem Ech.null (E:Ech R e n m p) {j:Nat} (hn:j<n) (hj:j ∉ p):∀ i,i<R->mv n e (a5V m p j) i=0:=by
 refine(E.sol n _).mpr fun i hi=>?_
 by_cases h:i<p.length
 ·rw[E.row h,a9a E h hj,QX j n hn (fun c _ hc=>?_),jk hj,UQ]
  ·grind
  ·split
   ·rfl
   ·rename_i h;rw[a5W h,jk hc];grind
 ·exact E.low (by omega) hi _
theorem Ech.span (E:Ech R e n m p) {x:Nat->Rat} (hx:∀ i,i<R->mv n e x i=0) (hf:∀ c,c<n->c ∉ p->x c=0):∀ c,c<n->x c=0:=by
 intro c hc
 by_cases h:c ∈ p
 ·have ⟨a1,a2⟩:=YN h
  have a3:p[p.idxOf c]=c:=List.getElem_idxOf a1
  have h1:=(E.sol n x).mp hx (p.idxOf c) (ni a1 E.le)
  rw[E.row a1,a3,pG n (fun c hc=>?_)] at h1
  ·grind
  ·split
   ·rfl
   ·rename_i h;rw[hf c hc h];grind
 ·exact hf c hc h
theorem Ech.full (E:Ech R e n m p) (h:p.length=n) {c:Nat} (hc:c<n):c ∈ p:=by
 have h1:=IQ E.nd E.lt
 by_cases hm:c ∈ p
 ·exact hm
 ·have:=List.length_pos_of_mem (IU.mpr ⟨hc,hm⟩);omega
theorem Ech.inj (E:Ech R e n m p):p.length=n↔∀ x,(∀ i,i<R->mv n e x i=0)->∀ c,c<n->x c=0:=by
 constructor
 ·intro h x hx
  exact E.span hx (fun c hc hn=>absurd (E.full h hc) hn)
 ·intro h
  have h1:=IQ E.nd E.lt
  rcases yj (frees n p).length with h0|h0
  ·omega
  ·have ⟨h2,h3⟩:=IU.mp (um h0)
   have:=h _ (E.null h2 h3) _ h2
   rw[UQ] at this;exact absurd this (by decide)
theorem Ech.col (E:Ech R e n m p) {q:Nat} (hq:n<=q) (x:Nat->Rat):(∀ i,i<R->mv n e x i=e i q)↔(∀ i,i<R->mv n m x i=m i q):=by
 have key:∀ (a:Mt) i,mv (q+1) a (fun c=>if c<n then x c else if c=q then -1 else 0) i=mv n a x i-a i q:=fun a i=>by
  unfold mv
  show sm q _+_=_
  obtain⟨d,rfl⟩:∃ d,q=n+d:=⟨q-n,by omega⟩
  rw[a9U,pG d (fun c hc=>?_),lK n (g:=fun k=>a i k*x k) (fun c hc=>by simp only[jq hc])]
  ·simp only[jk (show ¬ n+d<n by omega)];simp only[Ce];grind
  ·simp only[jk (show ¬ n+c<n by omega),jk (show ¬ n+c=n+d by omega)];grind
 have h:=E.sol (q+1) (fun c=>if c<n then x c else if c=q then -1 else 0)
 simp only[key] at h
 constructor
 ·intro h1 i hi;have:=h.mp (fun i hi=>by rw[h1 i hi];grind) i hi;grind
 ·intro h1 i hi;have:=h.mpr (fun i hi=>by rw[h1 i hi];grind) i hi;grind
def xs (m:Mt) (p:List Nat) (q:Nat):Nat->Rat:=fun c=>if c ∈ p then m (p.idxOf c) q else 0
theorem Ech.solve (E:Ech R e n m p) {q:Nat} (hq:n<=q) (h0:∀ i,p.length<=i->i<R->m i q=0):∀ i,i<R->mv n e (xs m p q) i=e i q:=by
 refine(E.col hq _).mpr fun i hi=>?_
 by_cases h:i<p.length
 ·rw[E.row h,pG n (fun c _=>?_)]
  ·unfold xs;rw[jq (um h),IZ E.nd h];grind
  ·split
   ·rfl
   ·rename_i h;unfold xs;rw[jk h];grind
 ·rw[E.low (by omega) hi,h0 i (by omega) hi]
end
theorem a4r (R:Nat) (e:Mt):∀ n,(red R e n).2.length<=n/\((red R e n).2.length=n->(red R e n).2=List.range n)
 | 0=>⟨ak _,fun _=>rfl⟩
 | n+1=>by
  have ⟨h1,h2⟩:=a4r R e n
  unfold red
  split
  ·exact⟨by omega,fun h=>by omega⟩
  ·refine⟨by simp;omega,fun h=>?_⟩
   simp at h
   show _++_=_
   rw[Dn,h2 h]
theorem a9s (R:Nat) (e:Mt) (n:Nat):red R e (n+1)=if fk (red R e n).1 n (red R e n).2.length (R-(red R e n).2.length)=R then red R e n
 else (qM (red R e n).1 (red R e n).2.length (fk (red R e n).1 n (red R e n).2.length (R-(red R e n).2.length)) n,(red R e n).2++[n]):=rfl
theorem QI {R:Nat} {e f:Mt} {C:Nat} (h:∀ i,i<R->∀ c,c<C->e i c=f i c):∀ n,n<=C->(red R e n).2=(red R f n).2/\∀ i,i<R->∀ c,c<C->(red R e n).1 i c=(red R f n).1 i c
 | 0,_=>⟨rfl,h⟩
 | n+1,hn=>by
  have ⟨h1,h2⟩:=QI h n (by omega)
  have hl:=(wR R e n).le
  have hk:fk (red R e n).1 n (red R e n).2.length (R-(red R e n).2.length)=fk (red R f n).1 n (red R f n).2.length (R-(red R f n).2.length):=by
   rw[h1];exact a7u _ _ (fun i _ hi=>h2 i (by rw[<-h1] at hi;omega) n (by omega))
  have ⟨k1,k2⟩:=TR (red R e n).1 n (R-(red R e n).2.length) (red R e n).2.length
  unfold red
  rw[<-hk,<-h1]
  generalize fk (red R e n).1 n (red R e n).2.length (R-(red R e n).2.length)=k at *
  by_cases hR:k=R
  ·rw[jq hR,jq hR];exact⟨h1,h2⟩
  ·rw[jk hR,jk hR]
   refine⟨rfl,fun i hi c hc=>?_⟩
   show qM _ _ _ _ i c=qM _ _ _ _ i c
   have hsw:∀ c,c<C->vU (red R e n).1 (red R e n).2.length k i c=vU (red R f n).1 (red R e n).2.length k i c:=fun c hc=>by
    unfold vU;split
    ·exact h2 k (by omega) c hc
    ·split
     ·exact h2 _ (by omega) c hc
     ·exact h2 i hi c hc
   unfold qM
   rw[h2 k (by omega) c hc,h2 k (by omega) n (by omega),hsw c hc,hsw n (by omega)]
theorem b2d {n:Nat} {e:Mt} (h:(red n e n).2.length=n) {q:Nat} (hq:n<=q):∀ i,i<n->mv n e (fun c=>(red n e n).1 c q) i=e i q:=by
 have E:=wR n e n
 have hr:=(a4r n e n).2 h
 intro i hi
 rw[<-E.solve hq (fun i h1 h2=>by omega) i hi]
 refine lK n fun c hc=>?_
 unfold xs
 rw[jq (E.full h hc)]
 have h3:(red n e n).2.idxOf c=c:=by
  have a1:c<(red n e n).2.length:=by omega
  have a2:(red n e n).2[c]=c:=by simp[hr]
  have:=IZ E.nd a1
  rwa [a2] at this
 rw[h3]
theorem a1A {n:Nat} {a:Mt} (h:∀ x,(∀ i,i<n->mv n a x i=0)->∀ c,c<n->x c=0) (b:Nat->Rat):∃ x,∀ i,i<n->mv n a x i=b i:=by
 have E:=wR n (fun i c=>if c<n then a i c else b i) n
 have hc:∀ x i,mv n (fun i c=>if c<n then a i c else b i) x i=mv n a x i:=fun x i=>lK n fun c hc=>by simp only[jq hc]
 have hl:=E.inj.mpr (fun x hx=>h x (fun i hi=>by rw[<-hc];exact hx i hi))
 refine⟨fun c=>(red n (fun i c=>if c<n then a i c else b i) n).1 c n,fun i hi=>?_⟩
 rw[<-hc,b2d hl (ak n) i hi,jk (by omega)]
end
theorem a8R (m k:Nat) (a b c:Mt):mm m (mm k a b) c=mm k a (mm m b c):=by
 funext i j;unfold mm
 rw[show (fun l=>sm k (fun q=>a i q*b q l)*c l j)=(fun l=>sm k (fun q=>a i q*b q l*c l j)) from funext fun l=>(a4I _ _ k).symm,a4K]
 refine lK k fun q _=>?_
 rw[<-QW];exact lK m fun l _=>by grind
def ma (a b:Mt):Mt:=fun i j=>a i j+b i j
def ms (a b:Mt):Mt:=fun i j=>a i j-b i j
structure Gau (N f:Nat) (n g:Mt):Prop where
 sym:∀ i,i<N->∀ j,j<N->n i j=n j i
 ng:∀ i,i<N->∀ j,j<f->mm N n g i j=0
 rank:(red N g f).2.length=f
 dim:f+(red N n N).2.length=N
theorem b3p (n f:Nat) (a b:Mt) (x:Nat->Rat) (i:Nat):mv f (mm n a b) x i=mv n a (mv f b x) i :=
 congrFun (congrFun (a8R f n a b (fun k _=>x k)) i) 0
theorem b4D (n:Nat) (a:Mt) (x y:Nat->Rat) (i:Nat):mv n a (fun c=>x c-y c) i=mv n a x i-mv n a y i:=by
 unfold mv;rw[<-a9W];exact lK n fun k _=>by grind
theorem b1H {n:Nat} {a:Mt} {x:Nat->Rat} {i:Nat} (h:∀ c,c<n->x c=0):mv n a x i=0:=pG n fun c hc=>by rw[h c hc];grind
theorem Gau.inj {N f:Nat} {n g:Mt} (H:Gau N f n g) {z:Nat->Rat} (h:∀ i,i<N->mv f g z i=0):∀ c,c<f->z c=0:=(wR N g f).inj.mp H.rank z h
theorem Gau.nul {N f:Nat} {n g:Mt} (H:Gau N f n g) (z:Nat->Rat):∀ i,i<N->mv N n (mv f g z) i=0:=fun i hi=>by
 rw[<-b3p];exact pG f fun c hc=>by rw[H.ng i hi c hc];grind
theorem Gau.span {N f:Nat} {n g:Mt} (H:Gau N f n g) {x:Nat->Rat} (hx:∀ i,i<N->mv N n x i=0):∃ t,∀ i,i<N->x i=mv f g t i:=by
 have E:=wR N n N
 have hfr:=IQ E.nd E.lt
 have hf:(frees N (red N n N).2).length=f:=by have:=H.dim;omega
 have hin:∀ {y:Nat->Rat},(∀ i,i<N->mv N n y i=0)->(∀ s,s<f->y ((frees N (red N n N).2).getD s 0)=0)->∀ c,c<N->y c=0:=fun {y} hy h0=>by
  refine E.span hy fun c hc hp=>?_
  have h1:=IU.mpr ⟨hc,hp⟩
  have ⟨a1,a2⟩:=YN h1
  rw[hf] at a1;have:=h0 _ a1;rwa [a2] at this
 have ⟨t,ht⟩:=a1A (n:=f) (a:=fun s c=>g ((frees N (red N n N).2).getD s 0) c) (fun z hz=>H.inj (hin (H.nul z) (fun s hs=>hz s hs))) (fun s=>x ((frees N (red N n N).2).getD s 0))
 refine⟨t,fun i hi=>?_⟩
 have:=hin (y:=fun c=>x c-mv f g t c) (fun i hi=>by rw[b4D,hx i hi,H.nul t i hi];grind) (fun s hs=>by
  have:mv f g t ((frees N (red N n N).2).getD s 0)=x ((frees N (red N n N).2).getD s 0):=ht s hs
  rw[this];grind) i hi
 grind
def b0D (n:Nat) (a b:Mt):Mt:=fun i j=>if j<n then a i j else b i (j-n)
structure MZ (n:Nat) (a x:Mt):Prop where
 r:∀ i,i<n->∀ j,j<n->mm n a x i j=idm i j
 l:∀ i,i<n->∀ j,j<n->mm n x a i j=idm i j
theorem b9A {n:Nat} {x:Nat->Rat} {i:Nat} (h:i<n):mv n idm x i=x i:=by
 unfold mv;rw[QX i n h (fun k _ hk=>by unfold idm;rw[jk (by omega)];grind)]
 unfold idm;rw[jq rfl];grind
theorem b4C {n:Nat} {a b:Mt} {x:Nat->Rat} {i:Nat} (h:∀ c,c<n->a i c=b i c):mv n a x i=mv n b x i:=lK n fun c hc=>by rw[h c hc]
theorem MZ.mvl {n:Nat} {a x:Mt} (H:MZ n a x) (u:Nat->Rat) {i:Nat} (h:i<n):mv n x (mv n a u) i=u i:=by
 rw[<-b3p,b4C (b:=idm) (fun c hc=>H.l i h c hc),b9A h]
theorem MZ.inj {n:Nat} {a x:Mt} (H:MZ n a x) {u:Nat->Rat} (h:∀ i,i<n->mv n a u i=0):∀ c,c<n->u c=0:=fun c hc=>by
 rw[<-H.mvl u hc];exact b1H h
def Cdn (e:Mt) (R C K:Nat):Prop:=∃ D:Nat,0<D/\nsz D<=K/\∀ i,i<R->∀ j,j<C->∃ z:Int,e i j*(D:Nat)=(z:Int)/\isz z<=K
theorem YO {D:Nat} (h:0<D):((D:Nat):Rat)≠0:=fun h1=>by
 have:((D:Nat):Rat)=((0:Nat):Rat):=h1
 have:=Rat.natCast_inj.mp this;omega
theorem Cdn.rsz {e:Mt} {R C K:Nat} (H:Cdn e R C K) {i j:Nat} (h1:i<R) (h2:j<C):rsz (e i j)<=K:=by
 obtain⟨D,h0,hD,h⟩:=H
 obtain⟨z,hz,hs⟩:=h i h1 j h2
 have e1:e i j=Rat.divInt z D:=by
  rw[Rat.divInt_eq_div,<-hz,Rat.div_def]
  have:((D:Int):Rat)=((D:Nat):Rat):=Rat.intCast_natCast D
  rw[this,Rat.mul_assoc,Rat.mul_inv_cancel _ (YO h0)];grind
 rw[e1]
 exact wV _ _ (by omega) hs (by unfold isz;simpa using hD)
theorem Cdn.mono {e:Mt} {R C K L:Nat} (H:Cdn e R C K) (h:K<=L):Cdn e R C L:=by
 obtain⟨D,h0,hD,hh⟩:=H
 exact⟨D,h0,by omega,fun i h1 j h2=>by obtain⟨z,hz,hs⟩:=hh i h1 j h2;exact⟨z,hz,by omega⟩⟩
theorem Cdn.congr {e f:Mt} {R C K:Nat} (H:Cdn e R C K) (h:∀ i,i<R->∀ j,j<C->f i j=e i j):Cdn f R C K:=by
 obtain⟨D,h0,hD,hh⟩:=H
 exact⟨D,h0,hD,fun i h1 j h2=>by rw[h i h1 j h2];exact hh i h1 j h2⟩
theorem Cdn.tr {e:Mt} {R C K:Nat} (H:Cdn e R C K):Cdn (tr e) C R K:=by
 obtain⟨D,h0,hD,hh⟩:=H
 exact⟨D,h0,hD,fun i h1 j h2=>hh j h2 i h1⟩
theorem b2Q {f:Nat->Rat} {D K:Nat}:∀ n,(∀ k,k<n->∃ z:Int,f k*(D:Nat)=(z:Int)/\isz z<=K)->∃ z:Int,sm n f*(D:Nat)=(z:Int)/\isz z<=K+n
 | 0,_=>⟨0,by show (0:Rat)*_=_;rw[Rat.zero_mul];rfl,by rw[OX];omega⟩
 | n+1,h=>by
  have ⟨z,h1,h2⟩:=b2Q n (fun k hk=>h k (by omega))
  have ⟨y,h3,h4⟩:=h n (by omega)
  refine⟨z+y,?_,by have:=wM z y;omega⟩
  show (sm n f+f n)*_=_
  rw[Rat.intCast_add,<-h1,<-h3];grind
theorem sG (a b:Nat):((a*b:Nat):Rat)=(a:Rat)*(b:Rat):=Rat.natCast_mul a b
theorem Cdn.mm {a b:Mt} {R n C K L:Nat} (H:Cdn a R n K) (G:Cdn b n C L):Cdn (mm n a b) R C (K+L+n):=by
 obtain⟨D,h0,hD,hh⟩:=H
 obtain⟨E,g0,gD,gg⟩:=G
 refine⟨D*E,Nat.mul_pos h0 g0,by have:=tY D E;omega,fun i hi j hj=>b2Q n fun k hk=>?_⟩
 obtain⟨z,h1,h2⟩:=hh i hi k hk
 obtain⟨y,h3,h4⟩:=gg k hk j hj
 exact⟨z*y,by rw[xw,<-h1,<-h3,sG];grind,by have:=dK z y;omega⟩
theorem Cdn.two {a b:Mt} {R C K L:Nat} (H:Cdn a R C K) (G:Cdn b R C L) (s:Int) (hs:s=1\/s=-1):Cdn (fun i j=>a i j+s*b i j) R C (K+L+1):=by
 obtain⟨D,h0,hD,hh⟩:=H
 obtain⟨E,g0,gD,gg⟩:=G
 refine⟨D*E,Nat.mul_pos h0 g0,by have:=tY D E;omega,fun i hi j hj=>?_⟩
 obtain⟨z,h1,h2⟩:=hh i hi j hj
 obtain⟨y,h3,h4⟩:=gg i hi j hj
 refine⟨z*E+s*(y*D),?_,?_⟩
 ·rw[Rat.intCast_add,xw,xw,xw,<-h1,<-h3,sG,Rat.intCast_natCast,Rat.intCast_natCast];grind
 ·have a1:=dK z E;have a2:=dK y D
  have a3:isz ((E:Nat):Int)<=L:=by unfold isz;simpa using gD
  have a4:isz ((D:Nat):Int)<=K:=by unfold isz;simpa using hD
  have a5:=wM (z*E) (s*(y*D))
  have a6:isz (s*(y*D))=isz (y*D):=by
   rcases hs with h|h
   ·rw[h,Int.one_mul]
   ·rw[h,Int.neg_one_mul,lS]
  omega
theorem Cdn.add {a b:Mt} {R C K L:Nat} (H:Cdn a R C K) (G:Cdn b R C L):Cdn (ma a b) R C (K+L+1) :=
 (H.two G 1 (Or.inl rfl)).congr fun i _ j _=>by show a i j+b i j=a i j+((1:Int):Rat)*b i j;rw[show ((1:Int):Rat)=1 from rfl];grind
theorem Cdn.sub {a b:Mt} {R C K L:Nat} (H:Cdn a R C K) (G:Cdn b R C L):Cdn (ms a b) R C (K+L+1) :=
 (H.two G (-1) (Or.inr rfl)).congr fun i _ j _=>by show a i j-b i j=a i j+((-1:Int):Rat)*b i j;rw[show ((-1:Int):Rat)=-1 from rfl];grind
theorem Cdn.idm (R C:Nat):Cdn idm R C 1:=by
 refine⟨1,by omega,qI (x:=(1:Int)) (k:=1) (by unfold BB;decide),fun i _ j _=>⟨if i=j then 1 else 0,?_,?_⟩⟩
 ·show (if i=j then (1:Rat) else 0)*((1:Nat):Rat)=((if i=j then (1:Int) else 0:Int):Rat)
  rw[show ((1:Nat):Rat)=1 from rfl,Rat.mul_one]
  by_cases h:i=j
  ·rw[jq h,jq h];rfl
  ·rw[jk h,jk h];rfl
 ·split
  ·exact qI (by unfold BB;decide)
  ·rw[OX];omega
theorem Cdn.bes {a b:Mt} {R n C K L:Nat} (H:Cdn a R n K) (G:Cdn b R C L):Cdn (b0D n a b) R (n+C) (K+L):=by
 obtain⟨D,h0,hD,hh⟩:=H
 obtain⟨E,g0,gD,gg⟩:=G
 have a3:isz ((E:Nat):Int)<=L:=by unfold isz;simpa using gD
 have a4:isz ((D:Nat):Int)<=K:=by unfold isz;simpa using hD
 refine⟨D*E,Nat.mul_pos h0 g0,by have:=tY D E;omega,fun i hi j hj=>?_⟩
 unfold b0D
 by_cases h:j<n
 ·obtain⟨z,h1,h2⟩:=hh i hi j h
  refine⟨z*E,?_,by have:=dK z E;omega⟩
  rw[jq h,xw,<-h1,sG,Rat.intCast_natCast];grind
 ·obtain⟨z,h1,h2⟩:=gg i hi (j-n) (by omega)
  refine⟨z*D,?_,by have:=dK z D;omega⟩
  rw[jk h,xw,<-h1,sG,Rat.intCast_natCast];grind
theorem Cdn.step {e:Mt} {R C K r k j:Nat} (H:Cdn e R C K) (hr:r<R) (hk:k<R) (hj:j<C) (hz:e k j≠0):Cdn (qM e r k j) R C (2*K+1):=by
 obtain⟨D,h0,hD,hh⟩:=H
 obtain⟨p,p1,p2⟩:=hh k hk j hj
 have a4:isz ((D:Nat):Int)<=K:=by unfold isz;simpa using hD
 have hsw:∀ i,i<R->∀ c,c<C->∃ z:Int,vU e r k i c*(D:Nat)=(z:Int)/\isz z<=K:=fun i hi c hc=>by
  unfold vU;split
  ·exact hh k hk c hc
  ·split
   ·exact hh r hr c hc
   ·exact hh i hi c hc
 have hp:p≠0:=fun h=>by
  rw[h] at p1
  have h3:e k j*(D:Nat)=0:=p1
  have h2:=YO h0
  have:e k j*(D:Nat)*((D:Nat):Rat)⁻¹=e k j:=by rw[Rat.mul_assoc,Rat.mul_inv_cancel _ h2];grind
  rw[h3] at this;exact hz (by rw[<-this];grind)
 have hpR:(p:Rat)≠0:=fun h=>hp (Rat.intCast_inj.mp h)
 have hpa:((p.natAbs:Nat):Rat)=(p.sign:Rat)*p:=by
  rw[<-Rat.intCast_natCast,<-xw,show p.sign*p=(p.natAbs:Int) by rw[Int.sign_mul_self]]
 have hs:isz p.sign<=1:=by
  refine qI ?_
  have:=Int.natAbs_sign_of_ne_zero hp;rw[this];unfold BB;decide
 have hsm:∀ y:Int,isz (p.sign*y)=isz y:=fun y=>by
  rcases zi p 0 with h|h|h
  ·rw[uo h,Int.neg_one_mul,lS]
  ·exact absurd h hp
  ·rw[vg h,Int.one_mul]
 refine⟨D*p.natAbs,Nat.mul_pos h0 (Int.natAbs_pos.mpr hp),by have:=tY D p.natAbs;unfold isz at p2;omega,fun i hi c hc=>?_⟩
 obtain⟨y,y1,y2⟩:=hh k hk c hc
 have hdv:e k c / e k j*p=y:=by
  rw[<-p1,<-y1,Rat.div_def]
  have:=Rat.mul_inv_cancel _ hz;grind
 unfold qM
 by_cases h:i=r
 ·refine⟨p.sign*(y*D),?_,by rw[hsm];have:=dK y D;omega⟩
  rw[jq h,sG,hpa,xw,xw,Rat.intCast_natCast,<-hdv];grind
 ·obtain⟨z,z1,z2⟩:=hsw i hi c hc
  obtain⟨x,x1,x2⟩:=hsw i hi j hj
  refine⟨p.sign*(z*p-x*y),?_,?_⟩
  ·rw[jk h,sG,hpa,xw,Rat.intCast_sub,xw,xw,<-z1,<-x1,<-hdv];grind
  ·rw[hsm];have b1:=YF (z*p) (x*y);have b2:=dK z p;have b3:=dK x y;omega
theorem Cdn.red {e:Mt} {R C K:Nat} (H:Cdn e R C K):∀ n,n<=C->Cdn (red R e n).1 R C (2 ^ n*(K+1)-1)
 | 0,_=>H.mono (by omega)
 | n+1,hn=>by
  have ih:=Cdn.red H n (by omega)
  have E:=wR R e n
  rw[a9s]
  have ⟨k1,k2⟩:=TR (Proofs.YtbkocjmmbkifjaaGreat.red R e n).1 n (R-(Proofs.YtbkocjmmbkifjaaGreat.red R e n).2.length) (Proofs.YtbkocjmmbkifjaaGreat.red R e n).2.length
  have k4:=a0x (Proofs.YtbkocjmmbkifjaaGreat.red R e n).1 n (R-(Proofs.YtbkocjmmbkifjaaGreat.red R e n).2.length) (Proofs.YtbkocjmmbkifjaaGreat.red R e n).2.length
  have hle:=E.le
  split
  ·exact ih.mono (by have:=ku (K+1) (yc (show 0<2 by omega) (show n<=n+1 by omega));omega)
  ·rename_i h
   refine(ih.step (r:=(Proofs.YtbkocjmmbkifjaaGreat.red R e n).2.length) (by omega) (by omega) (show n<C by omega) (k4 (by omega))).mono ?_
   have h1:0<2 ^ n*(K+1):=Nat.mul_pos (Nat.pow_pos (by omega)) (by omega)
   rw[Nat.pow_succ,uw (2 ^ n) 2,Nat.mul_assoc];omega
def pd:Nat->(Nat->Nat)->Nat
 | 0,_=>1
 | n+1,f=>pd n f*f n
theorem a2x {f:Nat->Nat}:∀ n,(∀ k,k<n->0<f k)->0<pd n f
 | 0,_=>Nat.one_pos
 | n+1,h=>Nat.mul_pos (a2x n (fun k hk=>h k (by omega))) (h n (by omega))
theorem a2v {f:Nat->Nat} {k:Nat}:∀ n,k<n->f k ∣ pd n f
 | 0,h=>by omega
 | n+1,h=>by
  show f k ∣ pd n f*f n
  by_cases e:k=n
  ·rw[e];exact Nat.dvd_mul_left _ _
  ·exact Nat.dvd_trans (a2v n (by omega)) (Nat.dvd_mul_right _ _)
theorem a2w {f:Nat->Nat} {K:Nat}:∀ n,(∀ k,k<n->nsz (f k)<=K)->nsz (pd n f)<=n*K+1
 | 0,_=>by
  have:isz ((1:Nat):Int)<=1:=qI (by unfold BB;decide)
  show nsz 1<=_;unfold isz at this;simp at this;omega
 | n+1,h=>by
  have h1:=a2w n (fun k hk=>h k (by omega))
  have h2:=h n (by omega)
  have h3:=tY (pd n f) (f n)
  show nsz (pd n f*f n)<=_;rw[zn];omega
theorem Cdn.of {e:Mt} {R C:Nat} (h:∀ i,i<R->∀ j,j<C->Proofs.YtbkocjmmbkifjaaGreat.rsz (e i j)<=1):Cdn e R C (R*(C+1)+2):=by
 have hp:0<pd R (fun i=>pd C (fun j=>(e i j).den)):=a2x R fun i _=>a2x C fun j _=>(e i j).den_pos
 have hn:nsz (pd R (fun i=>pd C (fun j=>(e i j).den)))<=R*(C+1)+1:=a2w R fun i hi=>by
  have:=a2w (f:=fun j=>(e i j).den) (K:=1) C fun j hj=>iq (Nat.le_max_right _ _) (h i hi j hj)
  omega
 refine⟨_,hp,by omega,fun i hi j hj=>?_⟩
 have ⟨q,hq⟩:(e i j).den ∣ pd R (fun i=>pd C (fun j=>(e i j).den)):=Nat.dvd_trans (a2v (f:=fun j=>(e i j).den) C hj) (a2v (f:=fun i=>pd C (fun j=>(e i j).den)) R hi)
 refine⟨(e i j).num*q,?_,?_⟩
 ·rw[hq,sG,xw,Rat.intCast_natCast]
  have h1:e i j*((e i j).den:Rat)=(e i j).num:=by
   have h2:=Rat.num_divInt_den (e i j)
   have h3:=Rat.inv_mul_cancel _ (YO (e i j).den_pos)
   rw[Rat.divInt_eq_div,Rat.div_def,Rat.intCast_natCast] at h2
   generalize ((e i j).num:Rat)=x at *
   generalize ((e i j).den:Rat)=y at *
   rw[<-h2,Rat.mul_assoc,h3,Rat.mul_one]
  rw[<-h1];grind
 ·have a1:=dK (e i j).num q
  have a2:isz (e i j).num<=1:=iq (Nat.le_max_left _ _) (h i hi j hj)
  have a3:nsz q<=R*(C+1)+1:=iq (FD (by rw[hq];exact Nat.le_mul_of_pos_left _ (e i j).den_pos)) hn
  have a4:isz ((q:Nat):Int)<=R*(C+1)+1:=by unfold isz;simpa using a3
  omega
set_option maxRecDepth 100000
set_option maxHeartbeats 1000000
set_option linter.unusedVariables false
set_option linter.unusedSimpArgs false
theorem ZH {f:Nat->Rat} {K:Nat}:∀ n,(∀ i,i<n->rsz (f i)<=K)->rsz (sm n f)<=n*(K+1)+1
 | 0,_=>by show rsz 0<=_;rw[show rsz 0=1 by decide +kernel];omega
 | n+1,h=>by
  have h1:=ZH n (fun i hi=>h i (by omega))
  have h2:=h n (by omega)
  have h3:=a4A (sm n f) (f n)
  show rsz (sm n f+f n)<=_
  rw[zn];omega
def fE (x y:LQ') (k:Nat):Rat:=sm k fun i=>lv x i*lv y i
def XM (x y:LQ'):Prop:=x.length=y.length/\x.length<=64/\∀ i,i<x.length->rsz (lv x i)<=1000000/\rsz (lv y i)<=1000000
theorem yJ {x y:LQ'} (h:XM x y) {k:Nat} (hk:k<=x.length):rsz (fE x y k)<=200000000:=by
 have h1:=ZH (K:=2000000) (f:=fun i=>lv x i*lv y i) k (fun i hi=>by
  have ⟨a,b⟩:=h.2.2 i (by omega)
  have:=nT (lv x i) (lv y i);show rsz (lv x i*lv y i)<=_;omega)
 have h2:=h.2.1
 have:k*(2000000+1)<=64*2000001:=vw (by omega) (by omega)
 show rsz (sm k _)<=_
 omega
theorem VJ {x:Rat}:sgn x.num=0↔x=0:=⟨fun h=>Rat.num_eq_zero.mp (Du.1 h),fun h=>by rw[h];rfl⟩
noncomputable def b8z:Ctr:=⟨[.list tQ,.list tQ],[tQ],fun x=>XM x.1 x.2.1,fun x=>(fE x.1 x.2.1 (show LQ' from x.1).length,())⟩
theorem a0n:aT Tryz.prog 233 b8z:=by
 refine qG ((((nil0.ad a5a).ad b0v).ad b0w).ad b0t) [4,5,7] Tryz.func233 rfl (by decide) (fun x=>[.inv {k:Nat // k<=(show LQ' from x.1).length} (fun k=>[(11,.val tI (k.1:Int))]) (fun k=>[(4,.box [⟨tR,cZ⟩]),(5,.box [⟨tQ,fE x.1 x.2.1 k.1⟩])]) (fun k=>(show LQ' from x.1).length-k.1) ⟨0,by omega⟩ (fun _=>[])]) (fun x hp=>?_)
 obtain⟨x,y,u⟩:=x
 change List Rat at x
 change List Rat at y
 refine dM ((gX 0/\True)/\(asT Int 0=0/\asT aF { ok:=false,x:=0,g:=aP Nat,h:=aP Nat }=cZ/\fK 0=fE x y 0/\True)/\∀ (i:{ k:Nat // k<=List.length x }),let A₁:=(aB (aA i)).toNat;let A₂:=(Rat.num (List.getD x A₁ 0));let A₀:=((sgn A₂ != 0)==true);let fO:=(A₀=true->A₀=true/\True);asT Bool true=true/\ifB (decide (aB (aA i)<aB x.length)) ((0<=aB (aA i)/\aB (aA i)<aB x.length/\True)/\(rsz (List.getD x A₁ 0)<=1000000000/\(A₀=true->A₀=true/\A₀=true/\0<=aB (aA i)/\aB (aA i)<aB y.length/\True)/\fO/\(A₀=true->A₀=true/\rsz (List.getD y A₁ 0)<=1000000000/\True)/\fO/\((sgn A₂ != 0)=true->A₀=true)/\True)/\ifB (bif sgn A₂ != 0 then sgn (Rat.num (List.getD y A₁ 0)) != 0 else false) ((0<=aB (aA i)/\aB (aA i)<aB y.length/\s44 (List.getD x A₁ 0) (List.getD y A₁ 0)/\s44 (fE x y (aA i)) (List.getD x A₁ 0*List.getD y A₁ 0)/\True)/\∃ (i':{ k:Nat // k<=List.length x }),List.length x-aA i'<List.length x-aA i/\IntKind.wrap IntKind.i64 (aB (aA i)+1)=aB (aA i')/\asT aF cZ=cZ/\fE x y (aA i)+List.getD x A₁ 0*List.getD y A₁ 0=fE x y (aA i')/\True) (∃ (i':{ k:Nat // k<=List.length x }),List.length x-aA i'<List.length x-aA i/\IntKind.wrap IntKind.i64 (aB (aA i)+1)=aB (aA i')/\asT aF cZ=cZ/\fE x y (aA i)=fE x y (aA i')/\True)) (True/\fE x y (aA i)=fE x y x.length/\True)) (by kernel_rfl) ?_
 have hp:XM x y:=hp
 have hZ:(⟨false,0,[],[]⟩:aF)=cZ:=rfl
 dsimp only[aB,asT,aA,aP] at *
 simp only[hZ,Int.toNat_natCast,aQ,ay,au,og,ny]
 have hs:=fun k (hk:k<=x.length)=>yJ hp hk
 obtain⟨hl,h64,hr⟩:=hp
 refine⟨by unfold gX;omega,rfl,fun i=>⟨fun h1=>?_,fun h1=>?_⟩⟩
 ·have hi:i.1<x.length:=by omega
  have a1:rsz (x.getD i.1 0)<=1000000:=(hr i.1 hi).1
  have a2:rsz (y.getD i.1 0)<=1000000:=(hr i.1 hi).2
  have a3:=hs i.1 i.2
  have a4:=nT (x.getD i.1 0) (y.getD i.1 0)
  refine⟨⟨by omega,h1⟩,⟨by omega,fun h=>⟨h,h,by omega,by omega⟩,fun h=>h,fun h=>⟨h,by omega⟩,fun h=>h,fun h=>by rw[h];rfl⟩,fun h=>⟨⟨by omega,by omega,⟨by omega,by omega⟩,by omega,by omega⟩,⟨i.1+1,by omega⟩,by simp only;omega,by rw[cO (by omega) (by omega)];rfl,rfl⟩,fun h=>⟨⟨i.1+1,by omega⟩,by simp only;omega,by rw[cO (by omega) (by omega)];rfl,?_⟩⟩
  have hz:x.getD i.1 0*y.getD i.1 0=0:=by
   by_cases hx:sgn (x.getD i.1 0).num=0
   ·have h9:x.getD i.1 0=0:=VJ.mp hx
    rw[h9];grind
   ·rw[show (sgn (x.getD i.1 0).num != 0)=true from qo.mpr hx] at h
    have h:(sgn (y.getD i.1 0).num != 0)=false:=h
    have h9:y.getD i.1 0=0:=VJ.mp (by simpa using h)
    rw[h9];grind
  show sm i.1 _=sm i.1 _+x.getD i.1 0*y.getD i.1 0
  rw[hz];grind
 ·have:i.1=x.length:=by have:=i.2;omega
  rw[this]
abbrev TCo:List Ty:=[.ref tM]
def b4K (c:(nest TCo).den) (i j:Int):Prop:=0<=i/\i.toNat<(show MQ from c.1).length/\0<=j/\j.toNat<((show MQ from c.1).getD i.toNat []).length
def gCo (c:(nest TCo).den) (i j:Nat):Rat:=ent c.1 i j
theorem a5z:aT Tryz.prog 276 (b3G TCo b4K gCo):=by
 refine qG nil0 [5] Tryz.func276 rfl (by decide) (fun x=>[]) (fun x hp=>?_)
 obtain⟨i,j,c⟩:=x
 change Int at i
 change Int at j
 obtain⟨a,u⟩:=c
 change List (List Rat) at a
 refine dM ((0<=i/\i<aB a.length/\0<=j/\j<aB (List.getD a i.toNat (aP Rat)).length/\True)/\True/\List.getD (List.getD a i.toNat (aP Rat)) j.toNat 0=ent a i.toNat j.toNat/\True) (by kernel_rfl) ?_
 try dsimp only[aB,asT,aA,aP] at *
 have h1:0<=i/\i.toNat<a.length/\0<=j/\j.toNat<(a.getD i.toNat []).length:=hp
 exact⟨⟨h1.1,by omega,h1.2.2.1,by omega,trivial⟩,trivial,rfl,trivial⟩
abbrev TTu:List Ty:=[.ref tM]
def b1P (c:(nest TTu).den) (i j:Int):Prop:=0<=i/\0<=j/\j.toNat<(show MQ from c.1).length/\i.toNat<((show MQ from c.1).getD j.toNat []).length
def gTu (c:(nest TTu).den) (i j:Nat):Rat:=ent c.1 j i
theorem TM:aT Tryz.prog 273 (b3G TTu b1P gTu):=by
 refine qG nil0 [5] Tryz.func273 rfl (by decide) (fun x=>[]) (fun x hp=>?_)
 obtain⟨i,j,c⟩:=x
 change Int at i
 change Int at j
 obtain⟨a,u⟩:=c
 change List (List Rat) at a
 refine dM ((0<=j/\j<aB a.length/\0<=i/\i<aB (List.getD a j.toNat (aP Rat)).length/\True)/\True/\List.getD (List.getD a j.toNat (aP Rat)) i.toNat 0=ent a j.toNat i.toNat/\True) (by kernel_rfl) ?_
 try dsimp only[aB,asT,aA,aP] at *
 have h1:0<=i/\0<=j/\j.toNat<a.length/\i.toNat<(a.getD j.toNat []).length:=hp
 exact⟨⟨h1.2.1,by omega,h1.1,by omega,trivial⟩,trivial,rfl,trivial⟩
abbrev TMu:List Ty:=[.ref tM,.ref tM]
def b4L (c:(nest TMu).den) (i j:Int):Prop:=0<=i/\i.toNat<(show MQ from c.1).length/\0<=j/\j.toNat<(show MQ from c.2.1).length/\XM ((show MQ from c.1).getD i.toNat []) ((show MQ from c.2.1).getD j.toNat [])
def gMu (c:(nest TMu).den) (i j:Nat):Rat:=fE ((show MQ from c.1).getD i []) ((show MQ from c.2.1).getD j []) ((show MQ from c.1).getD i []).length
theorem a5A:aT Tryz.prog 232 (b3G TMu b4L gMu):=by
 refine qG (nil0.ad a0n) [6] Tryz.func232 rfl (by decide) (fun x=>[]) (fun x hp=>?_)
 obtain⟨i,j,c⟩:=x
 change Int at i
 change Int at j
 obtain⟨a,b,u⟩:=c
 change List (List Rat) at a
 change List (List Rat) at b
 refine dM ((0<=i/\i<aB a.length/\0<=j/\j<aB b.length/\XM (List.getD a i.toNat (aP Rat)) (List.getD b j.toNat (aP Rat))/\True)/\True/\fE (List.getD a i.toNat (aP Rat)) (List.getD b j.toNat (aP Rat)) (List.getD a i.toNat (aP Rat)).length=gMu (a,b,u) i.toNat j.toNat/\True) (by kernel_rfl) ?_
 try dsimp only[aB,asT,aA,aP] at *
 have h1:0<=i/\i.toNat<a.length/\0<=j/\j.toNat<b.length/\XM (a.getD i.toNat []) (b.getD j.toNat []):=hp
 exact⟨⟨h1.1,by omega,h1.2.2.1,by omega,h1.2.2.2.2,trivial⟩,trivial,rfl,trivial⟩
theorem a8H:NOk Tryz.prog 184 (a8T 276 TCo b4K gCo):=by
 refine YQ (nil0.ad a5z) ⟨[],[],[(11,tR)]⟩ Tryz.func184 rfl (by decide) (fun x=>YM x.1 x.2.1 (gCo x.2.2.1)) (fun x hp=>?_)
 obtain⟨m,n,c,u⟩:=x
 obtain⟨R,C,hR,hC,r2,c2,hP⟩:=hp
 change m=(R:Int) at hR
 change n=(C:Int) at hC
 subst hR hC
 refine dM (PU R C (gCo c) (b4K c) (fun y=>iK R C (gCo c)=y)) (by kernel_rfl) ?_
 exact JE r2 c2 hP rfl
theorem a8J:NOk Tryz.prog 184 (a8T 273 TTu b1P gTu):=by
 refine YQ (nil0.ad TM) ⟨[],[],[(11,tR)]⟩ Tryz.func184 rfl (by decide) (fun x=>YM x.1 x.2.1 (gTu x.2.2.1)) (fun x hp=>?_)
 obtain⟨m,n,c,u⟩:=x
 obtain⟨R,C,hR,hC,r2,c2,hP⟩:=hp
 change m=(R:Int) at hR
 change n=(C:Int) at hC
 subst hR hC
 refine dM (PU R C (gTu c) (b1P c) (fun y=>iK R C (gTu c)=y)) (by kernel_rfl) ?_
 exact JE r2 c2 hP rfl
theorem a8I:NOk Tryz.prog 184 (a8T 232 TMu b4L gMu):=by
 refine YQ (nil0.ad a5A) ⟨[],[],[(11,tR)]⟩ Tryz.func184 rfl (by decide) (fun x=>YM x.1 x.2.1 (gMu x.2.2.1)) (fun x hp=>?_)
 obtain⟨m,n,c,u⟩:=x
 obtain⟨R,C,hR,hC,r2,c2,hP⟩:=hp
 change m=(R:Int) at hR
 change n=(C:Int) at hC
 subst hR hC
 refine dM (PU R C (gMu c) (b4L c) (fun y=>iK R C (gMu c)=y)) (by kernel_rfl) ?_
 exact JE r2 c2 hP rfl
theorem a3q (x:List Rat):qO (fun(x:Ty.den (Ty.lf Lf.rat))=>dR []) x:=mZ.mpr fun _ _=>trivial
theorem a3r (a:MQ):qO (fun(x:Ty.den (Ty.list (Ty.lf Lf.rat)))=>dR [qO (fun(x:Ty.den (Ty.lf Lf.rat))=>dR []) x]) a:=mZ.mpr fun r _=>⟨a3q r,trivial⟩
theorem ifF {b:Bool} {p q:Prop} (h:b=false) (hq:q):ifB b p q:=by subst h;exact hq
theorem a8V {x:Int} (h:x=0):(x != 0)=false:=by rw[h];rfl
theorem okM.pos {a:MQ} (h:okM a):0<a.length:=by have:=h.1.2.2.1;omega
theorem okM.poz {a:MQ} (h:okM a):(0:Int)<(a.length:Int):=by have:=h.pos;omega
theorem okM.r64 {a:MQ} (h:okM a):a.length<=64:=h.1.2.2.2.1
theorem okM.c1 {a:MQ} (h:okM a):1<=wdM a:=h.1.2.2.2.2.1
theorem okM.c64 {a:MQ} (h:okM a):wdM a<=64:=h.1.2.2.2.2.2
theorem okM.row {a:MQ} (h:okM a) {i:Nat} (hi:i<a.length):(a.getD i []).length=wdM a:=h.1.row hi
noncomputable def b0L:Ctr:=⟨[tM],[tM],fun x=>okM x.1,fun x=>(tab (wdM (show MQ from x.1)) (show MQ from x.1).length (tr (ent x.1)),())⟩
theorem a2Z:aT Tryz.prog 231 b0L:=by
 refine bY ((((nil0.ad TM).an a8H).an a8J).an a8I) ⟨[],[],[]⟩ Tryz.func231 rfl (by decide) (fun x=>[]) (fun x hp=>?_)
 obtain⟨a,u⟩:=x
 change List (List Rat) at a
 refine dM ((asT Int 0<=0/\0<aB a.length/\b3n TTu b1P (aB (List.getD a 0 (aP Rat)).length,aB a.length,(a,()),())/\True)/\(qO (fun(x:Ty.den (Ty.list (Ty.lf Lf.iZ)))=>dR (qO (fun(x:Ty.den (Ty.lf Lf.iZ))=>dR ((aF.ok x=true)::aP Cd)) x::aP Cd)) (iK (aB (List.getD a 0 (aP Rat)).length).toNat (aB a.length).toNat (gTu (a,())))/\True)/\List.map (fun(xs:Ty.den (Ty.list (Ty.lf Lf.iZ)))=>List.map (fun(x:Ty.den (Ty.lf Lf.iZ))=>aF.x x) xs) (iK (aB (List.getD a 0 (aP Rat)).length).toNat (aB a.length).toNat (gTu (a,())))=tab (wdM a) a.length (tr (ent a))/\True) (by kernel_rfl) ?_
 have ha:okM a:=hp
 exact⟨⟨Int.le_refl 0,ha.poz,⟨wdM a,a.length,rfl,rfl,by have:=ha.c64;omega,by have:=ha.r64;omega,fun i j hi hj=>⟨Int.natCast_nonneg i,Int.natCast_nonneg j,hj,by show i<(a.getD j []).length;rw[ha.row hj];exact hi⟩⟩,trivial⟩,⟨b2C _ _ _,trivial⟩,b7W _ _ _,trivial⟩
noncomputable def b0K:Ctr:=⟨[tM],[tM,tI],fun x=>okM x.1,fun x=>(tab (wdM (show MQ from x.1)) (show MQ from x.1).length (tr (ent x.1)),(0:Int),())⟩
theorem RF:aT Tryz.prog 153 b0K:=by
 refine bY ((nil0.ad DJ).ad a2Z) ⟨[],[],[]⟩ Tryz.func153 rfl (by decide) (fun x=>[]) (fun x hp=>?_)
 obtain⟨a,u⟩:=x
 change List (List Rat) at a
 refine dM (let A₀:=(List.map (fun(xs:Ty.den (Ty.list (Ty.lf Lf.rat)))=>List.map (fun(x:Ty.den (Ty.lf Lf.rat))=>kL x) xs) a);(qO (fun(x:Ty.den (Ty.list (Ty.lf Lf.rat)))=>dR (qO (fun(x:Ty.den (Ty.lf Lf.rat))=>dR (aP Cd)) x::aP Cd)) a/\JM A₀/\True)/\ifB (uX A₀ != 0) (True/\aP (List Rat)=tab (wdM a) a.length (tr (ent a))/\True/\uX A₀=0/\True) ((okM a/\True)/\True/\tab (wdM a) a.length (tr (ent a))=tab (wdM a) a.length (tr (ent a))/\True/\asT Int 0=0/\True)) (by kernel_rfl) ?_
 have ha:okM a:=hp
 exact⟨⟨a3r a,ha.short,trivial⟩,ifF (a8V ha.chk) ⟨⟨ha,trivial⟩,trivial,rfl,trivial,rfl,trivial⟩⟩
def a9c (R C:Nat) (e:Mt) (n:Nat):Prop:=∀ t,t<=n->∀ i,i<R->∀ c,c<C->rsz ((red R e t).1 i c)<=10000000
theorem a9c.at {R C n:Nat} {e:Mt} (h:a9c R C e n) {i c:Nat} (hi:i<R) (hc:c<C):rsz (e i c)<=10000000:=h 0 (by omega) i hi c hc
theorem a9c.mono {R C n m:Nat} {e:Mt} (h:a9c R C e n) (hm:m<=n):a9c R C e m:=fun t ht=>h t (by omega)
def mulM (a b:MQ):MQ:=tab a.length (wdM b) (mm b.length (ent a) (ent b))
def trM (a:MQ):MQ:=tab (wdM a) a.length (tr (ent a))
def b0B (a b:MQ):MQ:=tab a.length (wdM a) (ma (ent a) (ent b))
def b2A (a b:MQ):MQ:=tab a.length (wdM a) (ms (ent a) (ent b))
def b1t (a:MQ):Mt × List Nat:=red a.length (b0D a.length (ent a) idm) a.length
def b1s (a:MQ):MQ:=tab a.length a.length fun i j=>(b1t a).1 i (a.length+j)
def mvL (a:MQ) (x:List Rat):List Rat:=(List.range a.length).map (mv (wdM a) (ent a) (lv x))
instance c1i (N:Nat) (p:Nat->Prop) [DecidablePred p]:Decidable (∀ i,i<N->p i):=Nat.decidableBallLT N (fun i _=>p i)
def CdM (a:MQ) (K:Nat):Prop:=Cdn (ent a) a.length (wdM a) K
theorem isM.len {a:MQ} {R C:Nat} (h:isM a R C):a.length=R:=h.1
theorem isM.self {a:MQ} {R C:Nat} (h:isM a R C):isM a a.length (wdM a):=by rw[h.len,h.wd];exact h
theorem b7X {R C:Nat} {f:Nat->Nat->Rat} (h:1<=R):wdM (tab R C f)=C:=by
 show ((tab R C f).getD 0 []).length=C;rw[GI (by omega)];simp
theorem ZJ {R C K:Nat} {f:Mt} (h:1<=R) (H:Cdn f R C K):CdM (tab R C f) K:=by
 unfold CdM;rw[lT,b7X h];exact H.congr fun i hi j hj=>a3I hi hj
theorem CdM.sz {a:MQ} {K L:Nat} (H:CdM a K) (h:K<=L):szM a L:=fun i hi j hj=>iq (Cdn.rsz H hi hj) h
theorem CdM.ok {a:MQ} {R C K:Nat} (H:CdM a K) (h:isM a R C) (hK:K<=100000000):okM a:=⟨h.self,H.sz hK⟩
theorem isM.mul {a b:MQ} {R C D n:Nat} (h:isM a R C) (g:isM b n D):isM (mulM a b) R D:=by
 unfold mulM;rw[h.len,g.wd];exact GH h.2.2.1 h.2.2.2.1 g.2.2.2.2.1 g.2.2.2.2.2
theorem isM.add {a b:MQ} {R C:Nat} (h:isM a R C):isM (b0B a b) R C:=by
 unfold b0B;rw[h.len,h.wd];exact GH h.2.2.1 h.2.2.2.1 h.2.2.2.2.1 h.2.2.2.2.2
theorem isM.sub {a b:MQ} {R C:Nat} (h:isM a R C):isM (b2A a b) R C:=by
 unfold b2A;rw[h.len,h.wd];exact GH h.2.2.1 h.2.2.2.1 h.2.2.2.2.1 h.2.2.2.2.2
theorem isM.inv {a:MQ} {n C:Nat} (h:isM a n C):isM (b1s a) n n:=by
 unfold b1s;rw[h.len];exact GH h.2.2.1 h.2.2.2.1 h.2.2.1 h.2.2.2.1
theorem CdM.mul {a b:MQ} {R n C K L:Nat} (H:CdM a K) (G:CdM b L) (h:isM a R n) (g:isM b n C):CdM (mulM a b) (K+L+n):=by
 unfold mulM;rw[h.len,g.len,g.wd]
 refine ZJ h.2.2.1 (Cdn.mm ?_ ?_)
 ·have:=H;unfold CdM at this;rwa [h.len,h.wd] at this
 ·have:=G;unfold CdM at this;rwa [g.len,g.wd] at this
theorem CdM.add {a b:MQ} {R C K L:Nat} (H:CdM a K) (G:CdM b L) (h:isM a R C) (g:isM b R C):CdM (b0B a b) (K+L+1):=by
 unfold b0B;rw[h.len,h.wd]
 refine ZJ h.2.2.1 (Cdn.add ?_ ?_)
 ·have:=H;unfold CdM at this;rwa [h.len,h.wd] at this
 ·have:=G;unfold CdM at this;rwa [g.len,g.wd] at this
theorem CdM.sub {a b:MQ} {R C K L:Nat} (H:CdM a K) (G:CdM b L) (h:isM a R C) (g:isM b R C):CdM (b2A a b) (K+L+1):=by
 unfold b2A;rw[h.len,h.wd]
 refine ZJ h.2.2.1 (Cdn.sub ?_ ?_)
 ·have:=H;unfold CdM at this;rwa [h.len,h.wd] at this
 ·have:=G;unfold CdM at this;rwa [g.len,g.wd] at this
theorem CdM.b1t {a:MQ} {n K:Nat} (H:CdM a K) (h:isM a n n):Cdn (b0D n (ent a) idm) n (n+n) (K+1):=by
 have:=H;unfold CdM at this;rw[h.len,h.wd] at this
 exact Cdn.bes this (Cdn.idm n n)
theorem CdM.inv {a:MQ} {n K:Nat} (H:CdM a K) (h:isM a n n):CdM (b1s a) (2 ^ n*(K+2)-1):=by
 unfold b1s Proofs.YtbkocjmmbkifjaaGreat.b1t;rw[h.len]
 refine ZJ h.2.2.1 ?_
 have H2:=Cdn.red (H.b1t h) n (by omega)
 obtain⟨D,d1,d2,d3⟩:=H2
 exact⟨D,d1,d2,fun i hi j hj=>d3 i hi (n+j) (by omega)⟩
theorem b0i {R C:Nat} {f:Nat->Nat->Rat} {i j:Nat} (v:Rat) (hi:i<R):(tab R C f).set i (((tab R C f).getD i []).set j v)=tab R C (fun a b=>if a=i/\b=j then v else f a b):=by
 rw[GI hi,map_set]
 unfold tab;rw[map_set]
 refine Ci fun k _=>?_
 by_cases e:k=i
 ·subst e;rw[jq rfl]
  refine Ci fun d _=>?_
  show _=if k=k/\d=j then v else f k d
  by_cases e2:d=j
  ·rw[jq e2,jq ⟨rfl,e2⟩]
  ·rw[jk e2,jk (fun h=>e2 h.2)]
 ·rw[jk e]
  refine Ci fun d _=>?_
  show _=if k=i/\d=j then v else f k d
  rw[jk (fun h=>e h.1)]
noncomputable def b8H:Ctr:=⟨[.ref tM],[tI],fun x=>0<(show MQ from x.1).length,fun x=>((wdM (show MQ from x.1):Int),())⟩
theorem a0V:aT Tryz.prog 285 b8H:=by
 refine bY nil0 ⟨[],[],[]⟩ Tryz.func285 rfl (by decide) (fun x=>[]) (fun x hp=>?_)
 obtain⟨a,u⟩:=x
 change List (List Rat) at a
 refine dM ((asT Int 0<=0/\0<aB a.length/\True)/\True/\aB (List.getD a 0 (aP Rat)).length=aB (wdM a)/\True) (by kernel_rfl) ?_
 have hZ:(⟨false,0,[],[]⟩:aF)=cZ:=rfl
 dsimp only[aB,asT,aA,aP,Ty.den,Lf.den] at *
 simp only[hZ,Int.toNat_natCast,aQ,ay,au,og,ny,iI,nameAt,bZ,jV,lT,rowAt,jg,jf]
 have hp:0<a.length:=hp
 exact⟨Int.le_refl 0,by omega⟩
noncomputable def b8I:Ctr:=⟨[tM,.list tQ,.clo 285 (.pair (.ref tM) .unit)],[tI],fun x=>okM x.1/\(∀ q ∈ (show LQ' from x.2.1),rsz q<=100000000)/\(show MQ from x.2.2.1.1)=(show MQ from x.1)/\(show LQ' from x.2.1).length=wdM (show MQ from x.1),fun x=>((0:Int),())⟩
theorem a8G:aT Tryz.prog 284 b8I:=by
 refine bY ((((nil0.ad sF).ad DJ).ad sF).ad a0V) ⟨[],[],[]⟩ Tryz.func284 rfl (by decide) (fun x=>[]) (fun x hp=>?_)
 obtain⟨a,x,⟨b,v⟩,u⟩:=x
 change List (List Rat) at a
 change List Rat at x
 change List (List Rat) at b
 refine dM (let A₁:=(fun(x:Ty.den (Ty.lf Lf.rat))=>kL x);let A₀:=(List.map (fun(xs:Ty.den (Ty.list (Ty.lf Lf.rat)))=>List.map A₁ xs) a);(qO (fun(x:Ty.den (Ty.list (Ty.lf Lf.rat)))=>dR (qO (fun(x:Ty.den (Ty.lf Lf.rat))=>dR (aP Cd)) x::aP Cd)) a/\JM A₀/\True)/\ifB (uX A₀ != 0) (True/\uX A₀=0/\True) ((qO (fun(x:Ty.den (Ty.lf Lf.rat))=>dR (aP Cd)) x/\(List.length (List.map A₁ x)<=1000000/\∀ (q:aF),q ∈ List.map A₁ x->uT q)/\True)/\ifB (!!List.any (List.map A₁ x) fun(q:aF)=>!aF.ok q) (True/\asT Int 1=0/\True) ((0<List.length b/\True)/\ifB (aB x.length != aB (wdM b)) (True/\asT Int 4=0/\True) (True/\asT Int 0=0/\True)))) (by kernel_rfl) ?_
 have hZ:(⟨false,0,[],[]⟩:aF)=cZ:=rfl
 dsimp only[aB,asT,aA,aP,Ty.den,Lf.den] at *
 simp only[hZ,Int.toNat_natCast,aQ,ay,au,og,ny,iI,nameAt,bZ,jV,lT,rowAt,jg,jf]
 have hp:okM a/\(∀ q ∈ x,rsz q<=100000000)/\b=a/\x.length=wdM a:=hp
 obtain⟨ha,sx,rfl,hx⟩:=hp
 have q1:=ha.r64
 have q2:=ha.c64
 have e1:=a8V ha.chk
 have e2:(List.map (fun x=>kL x) x).any (fun q=>!q.ok)=false:=Bc.mpr fun q hq=>by
  obtain⟨y,_,rfl⟩:=uq.mp hq;simp[kL]
 refine⟨⟨a3r b,ha.short⟩,fun h=>absurd (h.symm.trans e1) (by decide),fun h=>⟨⟨a3q x,by rw[Bf];omega,fun q hq=>?_⟩,fun h2=>?_,fun h2=>⟨ha.pos,fun h3=>by rw[hx] at h3;simp at h3,fun _=>trivial⟩⟩⟩
 ·obtain⟨y,hy,rfl⟩:=uq.mp hq
  have:=sx y hy
  have ⟨h3,h4⟩:=VB y
  exact⟨by omega,by omega⟩
 ·rw[e2] at h2;cases h2
noncomputable def b9V:Ctr:=⟨[tM,.list tQ],[.list tQ],fun x=>okM x.1/\szM x.1 1000000/\(show LQ' from x.2.1).length=wdM (show MQ from x.1)/\∀ q ∈ (show LQ' from x.2.1),rsz q<=1000000,fun x=>(mvL x.1 x.2.1,())⟩
theorem b0C:aT Tryz.prog 286 b9V:=by
 refine bY (nil0.ad a0n) ⟨[],[],[]⟩ Tryz.func286 rfl (by decide) (fun x=>[.inv {k:Nat // k<=(show MQ from x.1).length} (fun k=>[(10,.val tI (k.1:Int)),(5,.own 19 0)]++[(18,.any),(19,.any)]) (fun k=>[(19,.row 47 tQ ((List.range k.1).map (mv (wdM (show MQ from x.1)) (ent (show MQ from x.1)) (lv x.2.1))) 0)]) (fun k=>(show MQ from x.1).length-k.1) ⟨0,by omega⟩ (fun _=>[])]) (fun x hp=>?_)
 obtain⟨a,x,u⟩:=x
 change List (List Rat) at a
 change List Rat at x
 refine dM (let A₀:=(mv (wdM a) (ent a) (lv x));(asT Int 0=0/\(True/\asT (List Rat) (aP Rat)=aP Rat)/\(asT (List Rat) (aP Rat)=aP Rat/\0=0/\asT Bool true=true)/\True)/\∀ (i:{ k:Nat // k<=List.length a }),let A₁:=(List.getD a (aB (aA i)).toNat (aP Rat));asT Bool true=true/\ifB (decide (aB (aA i)<aB a.length)) ((0<=aB (aA i)/\aB (aA i)<aB a.length/\True)/\(XM A₁ x/\List.length (List.map A₀ (List.range (aA i)))+List.length (fE A₁ x A₁.length::aP Rat)<=1000000000/\True)/\∃ (i':{ k:Nat // k<=List.length a }),List.length a-aA i'<List.length a-aA i/\IntKind.wrap IntKind.i64 (aB (aA i)+1)=aB (aA i')/\List.map A₀ (List.range (aA i))++fE A₁ x A₁.length::aP Rat=List.map A₀ (List.range (aA i'))/\True) (True/\List.map A₀ (List.range (aA i))=mvL a x/\True)) (by kernel_rfl) ?_
 have hZ:(⟨false,0,[],[]⟩:aF)=cZ:=rfl
 dsimp only[aB,asT,aA,aP,Ty.den,Lf.den] at *
 simp only[hZ,Int.toNat_natCast,aQ,ay,au,og,ny,iI,nameAt,bZ,jV,lT,rowAt,jg,jf]
 have hp:okM a/\szM a 1000000/\x.length=wdM a/\∀ q ∈ x,rsz q<=1000000:=hp
 obtain⟨ha,sa,hx,sx⟩:=hp
 have q1:=ha.r64
 have q2:=ha.c64
 refine fun i=>⟨fun h1=>?_,fun h1=>?_⟩
 ·have hi:i.1<a.length:=by omega
  have hr:=ha.row hi
  refine⟨⟨by omega,h1⟩,⟨⟨by rw[hr,hx],by rw[hr];exact q2,fun c hc=>⟨sa i.1 hi c (by omega),bF sx (by omega)⟩⟩,by simp;omega⟩,⟨i.1+1,by omega⟩,by simp only;omega,by rw[cO (by omega) (by omega)];rfl,?_⟩
  rw[Dn,List.map_append,hr];rfl
 ·have hi:i.1=a.length:=by have:=i.2;omega
  rw[hi];rfl
noncomputable def b8q:Ctr:=⟨[tM,.list tQ],[.list tQ,tI],fun x=>okM x.1/\szM x.1 1000000/\(show LQ' from x.2.1).length=wdM (show MQ from x.1)/\∀ q ∈ (show LQ' from x.2.1),rsz q<=1000000,fun x=>(mvL x.1 x.2.1,(0:Int),())⟩
theorem a6J:aT Tryz.prog 262 b8q:=by
 refine bY (((nil0.ad a0V).ad a8G).ad b0C) ⟨[],[],[]⟩ Tryz.func262 rfl (by decide) (fun x=>[]) (fun x hp=>?_)
 obtain⟨a,x,u⟩:=x
 change List (List Rat) at a
 change List Rat at x
 refine dM (((okM a/\(∀ (q:Rat),q ∈ x->rsz q<=100000000)/\a=a/\List.length x=wdM a)/\True)/\((okM a/\szM a 1000000/\List.length x=wdM a/\∀ (q:Rat),q ∈ x->rsz q<=1000000)/\True)/\True/\mvL a x=mvL a x/\True/\asT Int 0=0/\True) (by kernel_rfl) ?_
 have hZ:(⟨false,0,[],[]⟩:aF)=cZ:=rfl
 dsimp only[aB,asT,aA,aP,Ty.den,Lf.den] at *
 simp only[hZ,Int.toNat_natCast,aQ,ay,au,og,ny,iI,nameAt,bZ,jV,lT,rowAt,jg,jf]
 have hp:okM a/\szM a 1000000/\x.length=wdM a/\∀ q ∈ x,rsz q<=1000000:=hp
 obtain⟨ha,sa,hx,sx⟩:=hp
 exact⟨⟨ha,fun q hq=>iq (sx q hq) (by omega),hx⟩,ha,sa,hx,sx⟩
theorem PV {n:Nat} {a a' b b':Mt} {i j:Nat} (h1:∀ k,k<n->a i k=a' i k) (h2:∀ k,k<n->b k j=b' k j):mm n a b i j=mm n a' b' i j:=lK n fun k hk=>by rw[h1 k hk,h2 k hk]
theorem Gau.congr {N f:Nat} {n g n' g':Mt} (H:Gau N f n g) (h1:∀ i,i<N->∀ j,j<N->n' i j=n i j) (h2:∀ i,i<N->∀ j,j<f->g' i j=g i j):Gau N f n' g' :=
 ⟨fun i hi j hj=>by rw[h1 i hi j hj,h1 j hj i hi];exact H.sym i hi j hj,fun i hi j hj=>by rw[<-H.ng i hi j hj];exact PV (fun k hk=>h1 i hi k hk) (fun k hk=>h2 k hk j hj),
  by rw[(QI (C:=f) h2 f (ak _)).1];exact H.rank,by rw[(QI (C:=N) h1 N (ak _)).1];exact H.dim⟩
theorem MZ.congr {n:Nat} {a x a' x':Mt} (H:MZ n a x) (h1:∀ i,i<n->∀ j,j<n->a' i j=a i j) (h2:∀ i,i<n->∀ j,j<n->x' i j=x i j):MZ n a' x' :=
 ⟨fun i hi j hj=>by rw[<-H.r i hi j hj];exact PV (fun k hk=>h1 i hi k hk) (fun k hk=>h2 k hk j hj),fun i hi j hj=>by rw[<-H.l i hi j hj];exact PV (fun k hk=>h2 i hi k hk) (fun k hk=>h1 k hk j hj)⟩
theorem a4d (a:MQ) (x:List Rat):(mvL a x).length=a.length:=by simp[mvL]
theorem b3o {a:MQ} {R C:Nat} (h:isM a R C) {x:List Rat} {i:Nat} (hi:i<R):lv (mvL a x) i=mv C (ent a) (lv x) i:=by
 unfold mvL;rw[h.len,h.wd];exact a8O hi
theorem b4B {a:MQ} {R C K L:Nat} (h:isM a R C) (ha:szM a K) {x:LQ'} (hx:∀ q ∈ x,rsz q<=L) (hl:x.length=C):∀ q ∈ mvL a x,rsz q<=C*(K+L+1)+1:=fun q hq=>by
 obtain⟨i,hi,rfl⟩:=Cb hq
 have hi2:i<R:=by rw[a4d,h.len] at hi;exact hi
 have e:(mvL a x)[i]=mv C (ent a) (lv x) i:=by
  rw[<-b3o h hi2];unfold lv;rw[dh,dn hi];rfl
 rw[e]
 exact ZH (K:=K+L) (f:=fun k=>ent a i k*lv x k) C (fun k hk=>by
  have y1:rsz (ent a i k)<=K:=ha i (by rw[h.len];exact hi2) k (by rw[h.wd];exact hk)
  have y2:rsz (lv x k)<=L:=hx _ (by unfold lv;rw[dh,dn (by omega)];exact um _)
  have y3:=nT (ent a i k) (lv x k)
  show rsz (ent a i k*lv x k)<=_
  omega)
end Go.Proofs.YtbkocjmmbkifjaaGreat
