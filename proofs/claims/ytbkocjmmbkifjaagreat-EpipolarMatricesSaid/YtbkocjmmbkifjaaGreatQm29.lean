/-
  Lemmas for the theorem vmatrices28_holds, part 29 of 33.
-/
import Derived.Test.YtbkocjmmbkifjaaGreatQm28
namespace Go.Proofs.YtbkocjmmbkifjaaGreat
open Go Go.RowKit
section
theorem JU {p:List Nat} (h:p.Nodup) {t:Nat} (ht:t<p.length):p.idxOf p[t]=t:=by
 have h1:p.idxOf p[t]<p.length:=List.idxOf_lt_length_iff.mpr (uw ht)
 have h2:p[p.idxOf p[t]]=p[t]:=List.getElem_idxOf h1
 exact(List.getElem_inj h).mp h2
theorem a0a {p:List Nat} {c:Nat} (h:c ∈ p):p.idxOf c<p.length/\p.getD (p.idxOf c) 0=c:=by
 have h1:p.idxOf c<p.length:=List.idxOf_lt_length_iff.mpr h
 refine⟨h1,?_⟩
 rw[dn,dw h1];exact List.getElem_idxOf h1
theorem b1h {n:Nat}:∀ (p:List Nat),p.Nodup->(∀ j ∈ p,j<n)->sm n (fun c=>if c ∈ p then 1 else 0)=(p.length:Nat)
 | [],_,_=>pX n (fun c _=>rfl)
 | a::p,hd,hl=>by
  have h1:=b1h p (List.nodup_cons.mp hd).2 (fun j hj=>hl j (jk _ hj))
  have h2:sm n (fun c=>if c=a then (1:Rat) else 0)=1:=by
   rw[SN a n (hl a (jr ..)) (fun i _ hi=>jq hi),jv rfl]
  have h3:=(List.nodup_cons.mp hd).1
  rw[show (fun c=>if c ∈ a::p then (1:Rat) else 0)=(fun c=>(if c=a then (1:Rat) else 0)+(if c ∈ p then 1 else 0)) from funext fun c=>by
   by_cases e:c=a
   ·subst e;rw[jv (jr ..),jv rfl,jq h3];grind
   ·by_cases e2:c ∈ p
    ·rw[jv (jk _ e2),jq e,jv e2];grind
    ·rw[jq (by simp[e,e2]),jq e,jq e2];grind,KL,h1,h2,List.length_cons]
  grind
theorem a5N:∀ n,sm n (fun _=>1)=(n:Nat)
 | 0=>rfl
 | n+1=>by show sm n (fun _=>1)+1=_;rw[a5N n];grind
def frees (n:Nat) (p:List Nat):List Nat:=(List.range n).filter (fun c=>decide (c ∉ p))
theorem a5L (p:List Nat):∀ n,sm n (fun c=>if c ∈ p then 0 else 1)=((frees n p).length:Nat)
 | 0=>rfl
 | n+1=>by
  show sm n (fun c=>if c ∈ p then 0 else 1)+(if n ∈ p then 0 else 1)=_
  rw[a5L p n]
  unfold frees
  rw[Aw,List.filter_append,gy]
  by_cases h:n ∈ p
  ·simp[h];grind
  ·simp[h]
theorem JK {n:Nat} {p:List Nat} (hd:p.Nodup) (hl:∀ j ∈ p,j<n):(frees n p).length+p.length=n:=by
 have h1:=b1h p hd hl
 have h2:=a5L p n
 have h3:=a5N n
 have h4:=KL (fun c=>if c ∈ p then (1:Rat) else 0) (fun c=>if c ∈ p then (0:Rat) else 1) n
 rw[show (fun c=>(if c ∈ p then (1:Rat) else 0)+(if c ∈ p then (0:Rat) else 1))=(fun _=>1) from funext fun c=>by split<;>grind,h1,h2,h3] at h4
 have h5:((n:Nat):Rat)=((p.length+(frees n p).length:Nat):Rat):=by rw[h4];push_cast;rfl
 have:=Rat.natCast_inj.mp h5
 omega
theorem JL {n:Nat} {p:List Nat} {c:Nat}:c ∈ frees n p↔c<n/\c ∉ p:=by unfold frees;simp
section
variable {R n:Nat} {e m:Mt} {p:List Nat}
theorem Ech.row (E:Ech R e n m p) {t:Nat} (ht:t<p.length) (x:Nat->Rat):mv n m x t=x p[t]+sm n (fun c=>if c ∈ p then 0 else m t c*x c):=by
 have hl:=E.le
 have h1:sm n (fun c=>if c ∈ p then m t c*x c else 0)=x p[t]:=by
  rw[SN p[t] n (E.lt _ (uw ht)) (fun c _ hc=>?_),jv (uw ht),E.unit t ht t (by omega),jv rfl]
  ·grind
  ·by_cases h:c ∈ p
   ·rw[jv h]
    have ⟨a1,a2⟩:=a0a h
    have a3:p[p.idxOf c]=c:=List.getElem_idxOf a1
    have:=E.unit (p.idxOf c) a1 t (by omega)
    rw[a3,jq (fun h=>hc (by rw[<-a3];congr 1;exact h.symm))] at this
    rw[this];grind
   ·rw[jq h]
 rw[<-h1,<-KL]
 exact lV n fun c _=>by split<;>grind
theorem Ech.low (E:Ech R e n m p) {i:Nat} (h1:p.length<=i) (h2:i<R) (x:Nat->Rat):mv n m x i=0 :=
 pX n fun c hc=>by rw[E.rest i h1 h2 c hc];grind
def a6W (m:Mt) (p:List Nat) (j:Nat):Nat->Rat:=fun c=>if c=j then 1 else if c ∈ p then-m (p.idxOf c) j else 0
theorem WB (m:Mt) (p:List Nat) (j:Nat):a6W m p j j=1:=jv rfl
theorem a6X {m:Mt} {p:List Nat} {j c:Nat} (h:c ∉ p):a6W m p j c=if c=j then 1 else 0:=by
 unfold a6W;rw[jq h]
theorem b0j (E:Ech R e n m p) {j t:Nat} (ht:t<p.length) (hj:j ∉ p):a6W m p j p[t]=- m t j:=by
 unfold a6W
 rw[jq (fun h=>hj (by rw[<-h];exact uw ht)),jv (uw ht),JU E.nd ht]
theorem Ech.null (E:Ech R e n m p) {j:Nat} (hn:j<n) (hj:j ∉ p):∀ i,i<R->mv n e (a6W m p j) i=0:=by
 refine(E.sol n _).mpr fun i hi=>?_
 by_cases h:i<p.length
 ·rw[E.row h,b0j E h hj,SN j n hn (fun c _ hc=>?_),jq hj,WB]
  ·grind
  ·split
   ·rfl
   ·rename_i h;rw[a6X h,jq hc];grind
 ·exact E.low (by omega) hi _
theorem Ech.span (E:Ech R e n m p) {x:Nat->Rat} (hx:∀ i,i<R->mv n e x i=0) (hf:∀ c,c<n->c ∉ p->x c=0):∀ c,c<n->x c=0:=by
 intro c hc
 by_cases h:c ∈ p
 ·have ⟨a1,a2⟩:=a0a h
  have a3:p[p.idxOf c]=c:=List.getElem_idxOf a1
  have h1:=(E.sol n x).mp hx (p.idxOf c) (oh a1 E.le)
  rw[E.row a1,a3,pX n (fun c hc=>?_)] at h1
  ·grind
  ·split
   ·rfl
   ·rename_i h;rw[hf c hc h];grind
 ·exact hf c hc h
theorem Ech.full (E:Ech R e n m p) (h:p.length=n) {c:Nat} (hc:c<n):c ∈ p:=by
 have h1:=JK E.nd E.lt
 by_cases hm:c ∈ p
 ·exact hm
 ·have:=List.length_pos_of_mem (JL.mpr ⟨hc,hm⟩);omega
theorem Ech.inj (E:Ech R e n m p):p.length=n↔∀ x,(∀ i,i<R->mv n e x i=0)->∀ c,c<n->x c=0:=by
 constructor
 ·intro h x hx
  exact E.span hx (fun c hc hn=>absurd (E.full h hc) hn)
 ·intro h
  have h1:=JK E.nd E.lt
  rcases zh (frees n p).length with h0|h0
  ·omega
  ·have ⟨h2,h3⟩:=JL.mp (uw h0)
   have:=h _ (E.null h2 h3) _ h2
   rw[WB] at this;exact absurd this (by decide)
theorem Ech.col (E:Ech R e n m p) {q:Nat} (hq:n<=q) (x:Nat->Rat):(∀ i,i<R->mv n e x i=e i q)↔(∀ i,i<R->mv n m x i=m i q):=by
 have key:∀ (a:Mt) i,mv (q+1) a (fun c=>if c<n then x c else if c=q then -1 else 0) i=mv n a x i-a i q:=fun a i=>by
  unfold mv
  show sm q _+_=_
  obtain⟨d,rfl⟩:∃ d,q=n+d:=⟨q-n,by omega⟩
  rw[b1g,pX d (fun c hc=>?_),lV n (g:=fun k=>a i k*x k) (fun c hc=>by simp only[jv hc])]
  ·simp only[jq (show ¬ n+d<n by omega)];simp only[Dj];grind
  ·simp only[jq (show ¬ n+c<n by omega),jq (show ¬ n+c=n+d by omega)];grind
 have h:=E.sol (q+1) (fun c=>if c<n then x c else if c=q then -1 else 0)
 simp only[key] at h
 constructor
 ·intro h1 i hi;have:=h.mp (fun i hi=>by rw[h1 i hi];grind) i hi;grind
 ·intro h1 i hi;have:=h.mpr (fun i hi=>by rw[h1 i hi];grind) i hi;grind
def xs (m:Mt) (p:List Nat) (q:Nat):Nat->Rat:=fun c=>if c ∈ p then m (p.idxOf c) q else 0
theorem Ech.solve (E:Ech R e n m p) {q:Nat} (hq:n<=q) (h0:∀ i,p.length<=i->i<R->m i q=0):∀ i,i<R->mv n e (xs m p q) i=e i q:=by
 refine(E.col hq _).mpr fun i hi=>?_
 by_cases h:i<p.length
 ·rw[E.row h,pX n (fun c _=>?_)]
  ·unfold xs;rw[jv (uw h),JU E.nd h];grind
  ·split
   ·rfl
   ·rename_i h;unfold xs;rw[jq h];grind
 ·rw[E.low (by omega) hi,h0 i (by omega) hi]
end
theorem a5v (R:Nat) (e:Mt):∀ n,(red R e n).2.length<=n/\((red R e n).2.length=n->(red R e n).2=List.range n)
 | 0=>⟨au _,fun _=>rfl⟩
 | n+1=>by
  have ⟨h1,h2⟩:=a5v R e n
  unfold red
  split
  ·exact⟨by omega,fun h=>by omega⟩
  ·refine⟨by simp;omega,fun h=>?_⟩
   simp at h
   show _++_=_
   rw[Aw,h2 h]
theorem b0D (R:Nat) (e:Mt) (n:Nat):red R e (n+1)=if fk (red R e n).1 n (red R e n).2.length (R-(red R e n).2.length)=R then red R e n
 else (rC (red R e n).1 (red R e n).2.length (fk (red R e n).1 n (red R e n).2.length (R-(red R e n).2.length)) n,(red R e n).2++[n]):=rfl
theorem RY {R:Nat} {e f:Mt} {C:Nat} (h:∀ i,i<R->∀ c,c<C->e i c=f i c):∀ n,n<=C->(red R e n).2=(red R f n).2/\∀ i,i<R->∀ c,c<C->(red R e n).1 i c=(red R f n).1 i c
 | 0,_=>⟨rfl,h⟩
 | n+1,hn=>by
  have ⟨h1,h2⟩:=RY h n (by omega)
  have hl:=(xG R e n).le
  have hk:fk (red R e n).1 n (red R e n).2.length (R-(red R e n).2.length)=fk (red R f n).1 n (red R f n).2.length (R-(red R f n).2.length):=by
   rw[h1];exact a8C _ _ (fun i _ hi=>h2 i (by rw[<-h1] at hi;omega) n (by omega))
  have ⟨k1,k2⟩:=VD (red R e n).1 n (R-(red R e n).2.length) (red R e n).2.length
  unfold red
  rw[<-hk,<-h1]
  generalize fk (red R e n).1 n (red R e n).2.length (R-(red R e n).2.length)=k at *
  by_cases hR:k=R
  ·rw[jv hR,jv hR];exact⟨h1,h2⟩
  ·rw[jq hR,jq hR]
   refine⟨rfl,fun i hi c hc=>?_⟩
   show rC _ _ _ _ i c=rC _ _ _ _ i c
   have hsw:∀ c,c<C->wG (red R e n).1 (red R e n).2.length k i c=wG (red R f n).1 (red R e n).2.length k i c:=fun c hc=>by
    unfold wG;split
    ·exact h2 k (by omega) c hc
    ·split
     ·exact h2 _ (by omega) c hc
     ·exact h2 i hi c hc
   unfold rC
   rw[h2 k (by omega) c hc,h2 k (by omega) n (by omega),hsw c hc,hsw n (by omega)]
theorem b3u {n:Nat} {e:Mt} (h:(red n e n).2.length=n) {q:Nat} (hq:n<=q):∀ i,i<n->mv n e (fun c=>(red n e n).1 c q) i=e i q:=by
 have E:=xG n e n
 have hr:=(a5v n e n).2 h
 intro i hi
 rw[<-E.solve hq (fun i h1 h2=>by omega) i hi]
 refine lV n fun c hc=>?_
 unfold xs
 rw[jv (E.full h hc)]
 have h3:(red n e n).2.idxOf c=c:=by
  have a1:c<(red n e n).2.length:=by omega
  have a2:(red n e n).2[c]=c:=by simp[hr]
  have:=JU E.nd a1
  rwa [a2] at this
 rw[h3]
theorem a2t {n:Nat} {a:Mt} (h:∀ x,(∀ i,i<n->mv n a x i=0)->∀ c,c<n->x c=0) (b:Nat->Rat):∃ x,∀ i,i<n->mv n a x i=b i:=by
 have E:=xG n (fun i c=>if c<n then a i c else b i) n
 have hc:∀ x i,mv n (fun i c=>if c<n then a i c else b i) x i=mv n a x i:=fun x i=>lV n fun c hc=>by simp only[jv hc]
 have hl:=E.inj.mpr (fun x hx=>h x (fun i hi=>by rw[<-hc];exact hx i hi))
 refine⟨fun c=>(red n (fun i c=>if c<n then a i c else b i) n).1 c n,fun i hi=>?_⟩
 rw[<-hc,b3u hl (au n) i hi,jq (by omega)]
end
theorem b0a (m k:Nat) (a b c:Mt):mm m (mm k a b) c=mm k a (mm m b c):=by
 funext i j;unfold mm
 rw[show (fun l=>sm k (fun q=>a i q*b q l)*c l j)=(fun l=>sm k (fun q=>a i q*b q l*c l j)) from funext fun l=>(a5M _ _ k).symm,a5O]
 refine lV k fun q _=>?_
 rw[<-SL];exact lV m fun l _=>by grind
def ma (a b:Mt):Mt:=fun i j=>a i j+b i j
def ms (a b:Mt):Mt:=fun i j=>a i j-b i j
structure Gau (N f:Nat) (n g:Mt):Prop where
 sym:∀ i,i<N->∀ j,j<N->n i j=n j i
 ng:∀ i,i<N->∀ j,j<f->mm N n g i j=0
 rank:(red N g f).2.length=f
 dim:f+(red N n N).2.length=N
theorem b4J (n f:Nat) (a b:Mt) (x:Nat->Rat) (i:Nat):mv f (mm n a b) x i=mv n a (mv f b x) i :=
 congrFun (congrFun (b0a f n a b (fun k _=>x k)) i) 0
theorem b5U (n:Nat) (a:Mt) (x y:Nat->Rat) (i:Nat):mv n a (fun c=>x c-y c) i=mv n a x i-mv n a y i:=by
 unfold mv;rw[<-b1i];exact lV n fun k _=>by grind
theorem b2V {n:Nat} {a:Mt} {x:Nat->Rat} {i:Nat} (h:∀ c,c<n->x c=0):mv n a x i=0:=pX n fun c hc=>by rw[h c hc];grind
theorem Gau.inj {N f:Nat} {n g:Mt} (H:Gau N f n g) {z:Nat->Rat} (h:∀ i,i<N->mv f g z i=0):∀ c,c<f->z c=0:=(xG N g f).inj.mp H.rank z h
theorem Gau.nul {N f:Nat} {n g:Mt} (H:Gau N f n g) (z:Nat->Rat):∀ i,i<N->mv N n (mv f g z) i=0:=fun i hi=>by
 rw[<-b4J];exact pX f fun c hc=>by rw[H.ng i hi c hc];grind
theorem Gau.span {N f:Nat} {n g:Mt} (H:Gau N f n g) {x:Nat->Rat} (hx:∀ i,i<N->mv N n x i=0):∃ t,∀ i,i<N->x i=mv f g t i:=by
 have E:=xG N n N
 have hfr:=JK E.nd E.lt
 have hf:(frees N (red N n N).2).length=f:=by have:=H.dim;omega
 have hin:∀ {y:Nat->Rat},(∀ i,i<N->mv N n y i=0)->(∀ s,s<f->y ((frees N (red N n N).2).getD s 0)=0)->∀ c,c<N->y c=0:=fun {y} hy h0=>by
  refine E.span hy fun c hc hp=>?_
  have h1:=JL.mpr ⟨hc,hp⟩
  have ⟨a1,a2⟩:=a0a h1
  rw[hf] at a1;have:=h0 _ a1;rwa [a2] at this
 have ⟨t,ht⟩:=a2t (n:=f) (a:=fun s c=>g ((frees N (red N n N).2).getD s 0) c) (fun z hz=>H.inj (hin (H.nul z) (fun s hs=>hz s hs))) (fun s=>x ((frees N (red N n N).2).getD s 0))
 refine⟨t,fun i hi=>?_⟩
 have:=hin (y:=fun c=>x c-mv f g t c) (fun i hi=>by rw[b5U,hx i hi,H.nul t i hi];grind) (fun s hs=>by
  have:mv f g t ((frees N (red N n N).2).getD s 0)=x ((frees N (red N n N).2).getD s 0):=ht s hs
  rw[this];grind) i hi
 grind
def b1U (n:Nat) (a b:Mt):Mt:=fun i j=>if j<n then a i j else b i (j-n)
structure OB (n:Nat) (a x:Mt):Prop where
 r:∀ i,i<n->∀ j,j<n->mm n a x i j=idm i j
 l:∀ i,i<n->∀ j,j<n->mm n x a i j=idm i j
theorem c1p {n:Nat} {x:Nat->Rat} {i:Nat} (h:i<n):mv n idm x i=x i:=by
 unfold mv;rw[SN i n h (fun k _ hk=>by unfold idm;rw[jq (by omega)];grind)]
 unfold idm;rw[jv rfl];grind
theorem b5T {n:Nat} {a b:Mt} {x:Nat->Rat} {i:Nat} (h:∀ c,c<n->a i c=b i c):mv n a x i=mv n b x i:=lV n fun c hc=>by rw[h c hc]
theorem OB.mvl {n:Nat} {a x:Mt} (H:OB n a x) (u:Nat->Rat) {i:Nat} (h:i<n):mv n x (mv n a u) i=u i:=by
 rw[<-b4J,b5T (b:=idm) (fun c hc=>H.l i h c hc),c1p h]
theorem OB.inj {n:Nat} {a x:Mt} (H:OB n a x) {u:Nat->Rat} (h:∀ i,i<n->mv n a u i=0):∀ c,c<n->u c=0:=fun c hc=>by
 rw[<-H.mvl u hc];exact b2V h
def Cdn (e:Mt) (R C K:Nat):Prop:=∃ D:Nat,0<D/\nsz D<=K/\∀ i,i<R->∀ j,j<C->∃ z:Int,e i j*(D:Nat)=(z:Int)/\isz z<=K
theorem a0b {D:Nat} (h:0<D):((D:Nat):Rat)≠0:=fun h1=>by
 have:((D:Nat):Rat)=((0:Nat):Rat):=h1
 have:=Rat.natCast_inj.mp this;omega
theorem Cdn.rsz {e:Mt} {R C K:Nat} (H:Cdn e R C K) {i j:Nat} (h1:i<R) (h2:j<C):rsz (e i j)<=K:=by
 obtain⟨D,h0,hD,h⟩:=H
 obtain⟨z,hz,hs⟩:=h i h1 j h2
 have e1:e i j=Rat.divInt z D:=by
  rw[Rat.divInt_eq_div,<-hz,Rat.div_def]
  have:((D:Int):Rat)=((D:Nat):Rat):=Rat.intCast_natCast D
  rw[this,Rat.mul_assoc,Rat.mul_inv_cancel _ (a0b h0)];grind
 rw[e1]
 exact xJ _ _ (by omega) hs (by unfold isz;simpa using hD)
theorem Cdn.mono {e:Mt} {R C K L:Nat} (H:Cdn e R C K) (h:K<=L):Cdn e R C L:=by
 obtain⟨D,h0,hD,hh⟩:=H
 exact⟨D,h0,by omega,fun i h1 j h2=>by obtain⟨z,hz,hs⟩:=hh i h1 j h2;exact⟨z,hz,by omega⟩⟩
theorem Cdn.congr {e f:Mt} {R C K:Nat} (H:Cdn e R C K) (h:∀ i,i<R->∀ j,j<C->f i j=e i j):Cdn f R C K:=by
 obtain⟨D,h0,hD,hh⟩:=H
 exact⟨D,h0,hD,fun i h1 j h2=>by rw[h i h1 j h2];exact hh i h1 j h2⟩
theorem Cdn.tr {e:Mt} {R C K:Nat} (H:Cdn e R C K):Cdn (tr e) C R K:=by
 obtain⟨D,h0,hD,hh⟩:=H
 exact⟨D,h0,hD,fun i h1 j h2=>hh j h2 i h1⟩
theorem b4h {f:Nat->Rat} {D K:Nat}:∀ n,(∀ k,k<n->∃ z:Int,f k*(D:Nat)=(z:Int)/\isz z<=K)->∃ z:Int,sm n f*(D:Nat)=(z:Int)/\isz z<=K+n
 | 0,_=>⟨0,by show (0:Rat)*_=_;rw[Rat.zero_mul];rfl,by rw[FV];omega⟩
 | n+1,h=>by
  have ⟨z,h1,h2⟩:=b4h n (fun k hk=>h k (by omega))
  have ⟨y,h3,h4⟩:=h n (by omega)
  refine⟨z+y,?_,by have:=wY z y;omega⟩
  show (sm n f+f n)*_=_
  rw[Rat.intCast_add,<-h1,<-h3];grind
theorem sZ (a b:Nat):((a*b:Nat):Rat)=(a:Rat)*(b:Rat):=Rat.natCast_mul a b
theorem Cdn.mm {a b:Mt} {R n C K L:Nat} (H:Cdn a R n K) (G:Cdn b n C L):Cdn (mm n a b) R C (K+L+n):=by
 obtain⟨D,h0,hD,hh⟩:=H
 obtain⟨E,g0,gD,gg⟩:=G
 refine⟨D*E,Nat.mul_pos h0 g0,by have:=uS D E;omega,fun i hi j hj=>b4h n fun k hk=>?_⟩
 obtain⟨z,h1,h2⟩:=hh i hi k hk
 obtain⟨y,h3,h4⟩:=gg k hk j hj
 exact⟨z*y,by rw[yh,<-h1,<-h3,sZ];grind,by have:=dH z y;omega⟩
theorem Cdn.two {a b:Mt} {R C K L:Nat} (H:Cdn a R C K) (G:Cdn b R C L) (s:Int) (hs:s=1\/s=-1):Cdn (fun i j=>a i j+s*b i j) R C (K+L+1):=by
 obtain⟨D,h0,hD,hh⟩:=H
 obtain⟨E,g0,gD,gg⟩:=G
 refine⟨D*E,Nat.mul_pos h0 g0,by have:=uS D E;omega,fun i hi j hj=>?_⟩
 obtain⟨z,h1,h2⟩:=hh i hi j hj
 obtain⟨y,h3,h4⟩:=gg i hi j hj
 refine⟨z*E+s*(y*D),?_,?_⟩
 ·rw[Rat.intCast_add,yh,yh,yh,<-h1,<-h3,sZ,Rat.intCast_natCast,Rat.intCast_natCast];grind
 ·have a1:=dH z E;have a2:=dH y D
  have a3:isz ((E:Nat):Int)<=L:=by unfold isz;simpa using gD
  have a4:isz ((D:Nat):Int)<=K:=by unfold isz;simpa using hD
  have a5:=wY (z*E) (s*(y*D))
  have a6:isz (s*(y*D))=isz (y*D):=by
   rcases hs with h|h
   ·rw[h,Int.one_mul]
   ·rw[h,Int.neg_one_mul,kX]
  omega
theorem Cdn.add {a b:Mt} {R C K L:Nat} (H:Cdn a R C K) (G:Cdn b R C L):Cdn (ma a b) R C (K+L+1) :=
 (H.two G 1 (Or.inl rfl)).congr fun i _ j _=>by show a i j+b i j=a i j+((1:Int):Rat)*b i j;rw[show ((1:Int):Rat)=1 from rfl];grind
theorem Cdn.sub {a b:Mt} {R C K L:Nat} (H:Cdn a R C K) (G:Cdn b R C L):Cdn (ms a b) R C (K+L+1) :=
 (H.two G (-1) (Or.inr rfl)).congr fun i _ j _=>by show a i j-b i j=a i j+((-1:Int):Rat)*b i j;rw[show ((-1:Int):Rat)=-1 from rfl];grind
theorem Cdn.idm (R C:Nat):Cdn idm R C 1:=by
 refine⟨1,by omega,qU (x:=(1:Int)) (k:=1) (by unfold BB;decide),fun i _ j _=>⟨if i=j then 1 else 0,?_,?_⟩⟩
 ·show (if i=j then (1:Rat) else 0)*((1:Nat):Rat)=((if i=j then (1:Int) else 0:Int):Rat)
  rw[show ((1:Nat):Rat)=1 from rfl,Rat.mul_one]
  by_cases h:i=j
  ·rw[jv h,jv h];rfl
  ·rw[jq h,jq h];rfl
 ·split
  ·exact qU (by unfold BB;decide)
  ·rw[FV];omega
theorem Cdn.bes {a b:Mt} {R n C K L:Nat} (H:Cdn a R n K) (G:Cdn b R C L):Cdn (b1U n a b) R (n+C) (K+L):=by
 obtain⟨D,h0,hD,hh⟩:=H
 obtain⟨E,g0,gD,gg⟩:=G
 have a3:isz ((E:Nat):Int)<=L:=by unfold isz;simpa using gD
 have a4:isz ((D:Nat):Int)<=K:=by unfold isz;simpa using hD
 refine⟨D*E,Nat.mul_pos h0 g0,by have:=uS D E;omega,fun i hi j hj=>?_⟩
 unfold b1U
 by_cases h:j<n
 ·obtain⟨z,h1,h2⟩:=hh i hi j h
  refine⟨z*E,?_,by have:=dH z E;omega⟩
  rw[jv h,yh,<-h1,sZ,Rat.intCast_natCast];grind
 ·obtain⟨z,h1,h2⟩:=gg i hi (j-n) (by omega)
  refine⟨z*D,?_,by have:=dH z D;omega⟩
  rw[jq h,yh,<-h1,sZ,Rat.intCast_natCast];grind
theorem Cdn.step {e:Mt} {R C K r k j:Nat} (H:Cdn e R C K) (hr:r<R) (hk:k<R) (hj:j<C) (hz:e k j≠0):Cdn (rC e r k j) R C (2*K+1):=by
 obtain⟨D,h0,hD,hh⟩:=H
 obtain⟨p,p1,p2⟩:=hh k hk j hj
 have a4:isz ((D:Nat):Int)<=K:=by unfold isz;simpa using hD
 have hsw:∀ i,i<R->∀ c,c<C->∃ z:Int,wG e r k i c*(D:Nat)=(z:Int)/\isz z<=K:=fun i hi c hc=>by
  unfold wG;split
  ·exact hh k hk c hc
  ·split
   ·exact hh r hr c hc
   ·exact hh i hi c hc
 have hp:p≠0:=fun h=>by
  rw[h] at p1
  have h3:e k j*(D:Nat)=0:=p1
  have h2:=a0b h0
  have:e k j*(D:Nat)*((D:Nat):Rat)⁻¹=e k j:=by rw[Rat.mul_assoc,Rat.mul_inv_cancel _ h2];grind
  rw[h3] at this;exact hz (by rw[<-this];grind)
 have hpR:(p:Rat)≠0:=fun h=>hp (Rat.intCast_inj.mp h)
 have hpa:((p.natAbs:Nat):Rat)=(p.sign:Rat)*p:=by
  rw[<-Rat.intCast_natCast,<-yh,show p.sign*p=(p.natAbs:Int) by rw[Int.sign_mul_self]]
 have hs:isz p.sign<=1:=by
  refine qU ?_
  have:=Int.natAbs_sign_of_ne_zero hp;rw[this];unfold BB;decide
 have hsm:∀ y:Int,isz (p.sign*y)=isz y:=fun y=>by
  rcases zo p 0 with h|h|h
  ·rw[uy h,Int.neg_one_mul,kX]
  ·exact absurd h hp
  ·rw[vk h,Int.one_mul]
 refine⟨D*p.natAbs,Nat.mul_pos h0 (Int.natAbs_pos.mpr hp),by have:=uS D p.natAbs;unfold isz at p2;omega,fun i hi c hc=>?_⟩
 obtain⟨y,y1,y2⟩:=hh k hk c hc
 have hdv:e k c / e k j*p=y:=by
  rw[<-p1,<-y1,Rat.div_def]
  have:=Rat.mul_inv_cancel _ hz;grind
 unfold rC
 by_cases h:i=r
 ·refine⟨p.sign*(y*D),?_,by rw[hsm];have:=dH y D;omega⟩
  rw[jv h,sZ,hpa,yh,yh,Rat.intCast_natCast,<-hdv];grind
 ·obtain⟨z,z1,z2⟩:=hsw i hi c hc
  obtain⟨x,x1,x2⟩:=hsw i hi j hj
  refine⟨p.sign*(z*p-x*y),?_,?_⟩
  ·rw[jq h,sZ,hpa,yh,Rat.intCast_sub,yh,yh,<-z1,<-x1,<-hdv];grind
  ·rw[hsm];have b1:=ZP (z*p) (x*y);have b2:=dH z p;have b3:=dH x y;omega
theorem Cdn.red {e:Mt} {R C K:Nat} (H:Cdn e R C K):∀ n,n<=C->Cdn (red R e n).1 R C (2 ^ n*(K+1)-1)
 | 0,_=>H.mono (by omega)
 | n+1,hn=>by
  have ih:=Cdn.red H n (by omega)
  have E:=xG R e n
  rw[b0D]
  have ⟨k1,k2⟩:=VD (Proofs.YtbkocjmmbkifjaaGreat.red R e n).1 n (R-(Proofs.YtbkocjmmbkifjaaGreat.red R e n).2.length) (Proofs.YtbkocjmmbkifjaaGreat.red R e n).2.length
  have k4:=a1m (Proofs.YtbkocjmmbkifjaaGreat.red R e n).1 n (R-(Proofs.YtbkocjmmbkifjaaGreat.red R e n).2.length) (Proofs.YtbkocjmmbkifjaaGreat.red R e n).2.length
  have hle:=E.le
  split
  ·exact ih.mono (by have:=ny (K+1) (yu (show 0<2 by omega) (show n<=n+1 by omega));omega)
  ·rename_i h
   refine(ih.step (r:=(Proofs.YtbkocjmmbkifjaaGreat.red R e n).2.length) (by omega) (by omega) (show n<C by omega) (k4 (by omega))).mono ?_
   have h1:0<2 ^ n*(K+1):=Nat.mul_pos (Nat.pow_pos (by omega)) (by omega)
   rw[Nat.pow_succ,uz (2 ^ n) 2,Nat.mul_assoc];omega
def pd:Nat->(Nat->Nat)->Nat
 | 0,_=>1
 | n+1,f=>pd n f*f n
theorem a3s {f:Nat->Nat}:∀ n,(∀ k,k<n->0<f k)->0<pd n f
 | 0,_=>Nat.one_pos
 | n+1,h=>Nat.mul_pos (a3s n (fun k hk=>h k (by omega))) (h n (by omega))
theorem a3q {f:Nat->Nat} {k:Nat}:∀ n,k<n->f k ∣ pd n f
 | 0,h=>by omega
 | n+1,h=>by
  show f k ∣ pd n f*f n
  by_cases e:k=n
  ·rw[e];exact Nat.dvd_mul_left _ _
  ·exact Nat.dvd_trans (a3q n (by omega)) (Nat.dvd_mul_right _ _)
theorem a3r {f:Nat->Nat} {K:Nat}:∀ n,(∀ k,k<n->nsz (f k)<=K)->nsz (pd n f)<=n*K+1
 | 0,_=>by
  have:isz ((1:Nat):Int)<=1:=qU (by unfold BB;decide)
  show nsz 1<=_;unfold isz at this;simp at this;omega
 | n+1,h=>by
  have h1:=a3r n (fun k hk=>h k (by omega))
  have h2:=h n (by omega)
  have h3:=uS (pd n f) (f n)
  show nsz (pd n f*f n)<=_;rw[yx];omega
theorem Cdn.of {e:Mt} {R C:Nat} (h:∀ i,i<R->∀ j,j<C->Proofs.YtbkocjmmbkifjaaGreat.rsz (e i j)<=1):Cdn e R C (R*(C+1)+2):=by
 have hp:0<pd R (fun i=>pd C (fun j=>(e i j).den)):=a3s R fun i _=>a3s C fun j _=>(e i j).den_pos
 have hn:nsz (pd R (fun i=>pd C (fun j=>(e i j).den)))<=R*(C+1)+1:=a3r R fun i hi=>by
  have:=a3r (f:=fun j=>(e i j).den) (K:=1) C fun j hj=>dh (Nat.le_max_right _ _) (h i hi j hj)
  omega
 refine⟨_,hp,by omega,fun i hi j hj=>?_⟩
 have ⟨q,hq⟩:(e i j).den ∣ pd R (fun i=>pd C (fun j=>(e i j).den)):=Nat.dvd_trans (a3q (f:=fun j=>(e i j).den) C hj) (a3q (f:=fun i=>pd C (fun j=>(e i j).den)) R hi)
 refine⟨(e i j).num*q,?_,?_⟩
 ·rw[hq,sZ,yh,Rat.intCast_natCast]
  have h1:e i j*((e i j).den:Rat)=(e i j).num:=by
   have h2:=Rat.num_divInt_den (e i j)
   have h3:=Rat.inv_mul_cancel _ (a0b (e i j).den_pos)
   rw[Rat.divInt_eq_div,Rat.div_def,Rat.intCast_natCast] at h2
   generalize ((e i j).num:Rat)=x at *
   generalize ((e i j).den:Rat)=y at *
   rw[<-h2,Rat.mul_assoc,h3,Rat.mul_one]
  rw[<-h1];grind
 ·have a1:=dH (e i j).num q
  have a2:isz (e i j).num<=1:=dh (Nat.le_max_left _ _) (h i hi j hj)
  have a3:nsz q<=R*(C+1)+1:=dh (zN (by rw[hq];exact Nat.le_mul_of_pos_left _ (e i j).den_pos)) hn
  have a4:isz ((q:Nat):Int)<=R*(C+1)+1:=by unfold isz;simpa using a3
  omega
set_option maxRecDepth 100000
set_option maxHeartbeats 1000000
set_option linter.unusedVariables false
set_option linter.unusedSimpArgs false
theorem a0w {f:Nat->Rat} {K:Nat}:∀ n,(∀ i,i<n->rsz (f i)<=K)->rsz (sm n f)<=n*(K+1)+1
 | 0,_=>by show rsz 0<=_;rw[show rsz 0=1 by decide +kernel];omega
 | n+1,h=>by
  have h1:=a0w n (fun i hi=>h i (by omega))
  have h2:=h n (by omega)
  have h3:=a5F (sm n f) (f n)
  show rsz (sm n f+f n)<=_
  rw[yx];omega
def fG (x y:LQ') (k:Nat):Rat:=sm k fun i=>lv x i*lv y i
def YV (x y:LQ'):Prop:=x.length=y.length/\x.length<=64/\∀ i,i<x.length->rsz (lv x i)<=1000000/\rsz (lv y i)<=1000000
theorem yU {x y:LQ'} (h:YV x y) {k:Nat} (hk:k<=x.length):rsz (fG x y k)<=200000000:=by
 have h1:=a0w (K:=2000000) (f:=fun i=>lv x i*lv y i) k (fun i hi=>by
  have ⟨a,b⟩:=h.2.2 i (by omega)
  have:=oD (lv x i) (lv y i);show rsz (lv x i*lv y i)<=_;omega)
 have h2:=h.2.1
 have:k*(2000000+1)<=64*2000001:=xg (by omega) (by omega)
 show rsz (sm k _)<=_
 omega
theorem WV {x:Rat}:sgn x.num=0↔x=0:=⟨fun h=>Rat.num_eq_zero.mp (Am.1 h),fun h=>by rw[h];rfl⟩
noncomputable def c0f:Ctr:=⟨[.list tQ,.list tQ],[tQ],fun x=>YV x.1 x.2.1,fun x=>(fG x.1 x.2.1 (show LQ' from x.1).length,())⟩
theorem a1b:aS Tryz.prog 233 c0f:=by
 refine qQ ((((nil0.ad a6c).ad b1M).ad b1N).ad b4Q) [4,5,7] Tryz.func233 rfl (by decide) (fun x=>[.inv {k:Nat // k<=(show LQ' from x.1).length} (fun k=>[(11,.val tI (k.1:Int))]) (fun k=>[(4,.box [⟨tR,bM⟩]),(5,.box [⟨tQ,fG x.1 x.2.1 k.1⟩])]) (fun k=>(show LQ' from x.1).length-k.1) ⟨0,by omega⟩ (fun _=>[])]) (fun x hp=>?_)
 obtain⟨x,y,u⟩:=x
 change List Rat at x
 change List Rat at y
 refine dD ((gB 0/\True)/\(asT Int 0=0/\asT aG { ok:=false,x:=0,g:=aJ Nat,h:=aJ Nat }=bM/\dR 0=fG x y 0/\True)/\∀ (i:{ k:Nat // k<=List.length x }),let A₁:=(aB (aA i)).toNat;let A₂:=(Rat.num (List.getD x A₁ 0));let A₀:=((sgn A₂ != 0)==true);let eU:=(A₀=true->A₀=true/\True);asT Bool true=true/\ifB (decide (aB (aA i)<aB x.length)) ((0<=aB (aA i)/\aB (aA i)<aB x.length/\True)/\(rsz (List.getD x A₁ 0)<=1000000000/\(A₀=true->A₀=true/\A₀=true/\0<=aB (aA i)/\aB (aA i)<aB y.length/\True)/\eU/\(A₀=true->A₀=true/\rsz (List.getD y A₁ 0)<=1000000000/\True)/\eU/\((sgn A₂ != 0)=true->A₀=true)/\True)/\ifB (bif sgn A₂ != 0 then sgn (Rat.num (List.getD y A₁ 0)) != 0 else false) ((0<=aB (aA i)/\aB (aA i)<aB y.length/\s44 (List.getD x A₁ 0) (List.getD y A₁ 0)/\s44 (fG x y (aA i)) (List.getD x A₁ 0*List.getD y A₁ 0)/\True)/\∃ (i':{ k:Nat // k<=List.length x }),List.length x-aA i'<List.length x-aA i/\IntKind.wrap IntKind.i64 (aB (aA i)+1)=aB (aA i')/\asT aG bM=bM/\fG x y (aA i)+List.getD x A₁ 0*List.getD y A₁ 0=fG x y (aA i')/\True) (∃ (i':{ k:Nat // k<=List.length x }),List.length x-aA i'<List.length x-aA i/\IntKind.wrap IntKind.i64 (aB (aA i)+1)=aB (aA i')/\asT aG bM=bM/\fG x y (aA i)=fG x y (aA i')/\True)) (True/\fG x y (aA i)=fG x y x.length/\True)) (by kernel_rfl) ?_
 have hp:YV x y:=hp
 have hZ:(⟨false,0,[],[]⟩:aG)=bM:=rfl
 dsimp only[aB,asT,aA,aJ] at *
 simp only[hZ,Int.toNat_natCast,aO,ay,ak,ni,lg]
 have hs:=fun k (hk:k<=x.length)=>yU hp hk
 obtain⟨hl,h64,hr⟩:=hp
 refine⟨by unfold gB;omega,rfl,fun i=>⟨fun h1=>?_,fun h1=>?_⟩⟩
 ·have hi:i.1<x.length:=by omega
  have a1:rsz (x.getD i.1 0)<=1000000:=(hr i.1 hi).1
  have a2:rsz (y.getD i.1 0)<=1000000:=(hr i.1 hi).2
  have a3:=hs i.1 i.2
  have a4:=oD (x.getD i.1 0) (y.getD i.1 0)
  refine⟨⟨by omega,h1⟩,⟨by omega,fun h=>⟨h,h,by omega,by omega⟩,fun h=>h,fun h=>⟨h,by omega⟩,fun h=>h,fun h=>by rw[h];rfl⟩,fun h=>⟨⟨by omega,by omega,⟨by omega,by omega⟩,by omega,by omega⟩,⟨i.1+1,by omega⟩,by simp only;omega,by rw[bI (by omega) (by omega)];rfl,rfl⟩,fun h=>⟨⟨i.1+1,by omega⟩,by simp only;omega,by rw[bI (by omega) (by omega)];rfl,?_⟩⟩
  have hz:x.getD i.1 0*y.getD i.1 0=0:=by
   by_cases hx:sgn (x.getD i.1 0).num=0
   ·have h9:x.getD i.1 0=0:=WV.mp hx
    rw[h9];grind
   ·rw[show (sgn (x.getD i.1 0).num != 0)=true from ql.mpr hx] at h
    have h:(sgn (y.getD i.1 0).num != 0)=false:=h
    have h9:y.getD i.1 0=0:=WV.mp (by simpa using h)
    rw[h9];grind
  show sm i.1 _=sm i.1 _+x.getD i.1 0*y.getD i.1 0
  rw[hz];grind
 ·have:i.1=x.length:=by have:=i.2;omega
  rw[this]
abbrev TCo:List Ty:=[.ref tM]
def b6b (c:(nest TCo).den) (i j:Int):Prop:=0<=i/\i.toNat<(show MQ from c.1).length/\0<=j/\j.toNat<((show MQ from c.1).getD i.toNat []).length
def gCo (c:(nest TCo).den) (i j:Nat):Rat:=ent c.1 i j
theorem a6A:aS Tryz.prog 276 (b4Y TCo b6b gCo):=by
 refine qQ nil0 [5] Tryz.func276 rfl (by decide) (fun x=>[]) (fun x hp=>?_)
 obtain⟨i,j,c⟩:=x
 change Int at i
 change Int at j
 obtain⟨a,u⟩:=c
 change List (List Rat) at a
 refine dD ((0<=i/\i<aB a.length/\0<=j/\j<aB (List.getD a i.toNat (aJ Rat)).length/\True)/\True/\List.getD (List.getD a i.toNat (aJ Rat)) j.toNat 0=ent a i.toNat j.toNat/\True) (by kernel_rfl) ?_
 try dsimp only[aB,asT,aA,aJ] at *
 have h1:0<=i/\i.toNat<a.length/\0<=j/\j.toNat<(a.getD i.toNat []).length:=hp
 exact⟨⟨h1.1,by omega,h1.2.2.1,by omega,trivial⟩,trivial,rfl,trivial⟩
abbrev TTu:List Ty:=[.ref tM]
def b3c (c:(nest TTu).den) (i j:Int):Prop:=0<=i/\0<=j/\j.toNat<(show MQ from c.1).length/\i.toNat<((show MQ from c.1).getD j.toNat []).length
def gTu (c:(nest TTu).den) (i j:Nat):Rat:=ent c.1 j i
theorem UY:aS Tryz.prog 273 (b4Y TTu b3c gTu):=by
 refine qQ nil0 [5] Tryz.func273 rfl (by decide) (fun x=>[]) (fun x hp=>?_)
 obtain⟨i,j,c⟩:=x
 change Int at i
 change Int at j
 obtain⟨a,u⟩:=c
 change List (List Rat) at a
 refine dD ((0<=j/\j<aB a.length/\0<=i/\i<aB (List.getD a j.toNat (aJ Rat)).length/\True)/\True/\List.getD (List.getD a j.toNat (aJ Rat)) i.toNat 0=ent a j.toNat i.toNat/\True) (by kernel_rfl) ?_
 try dsimp only[aB,asT,aA,aJ] at *
 have h1:0<=i/\0<=j/\j.toNat<a.length/\i.toNat<(a.getD j.toNat []).length:=hp
 exact⟨⟨h1.2.1,by omega,h1.1,by omega,trivial⟩,trivial,rfl,trivial⟩
abbrev TMu:List Ty:=[.ref tM,.ref tM]
def b6c (c:(nest TMu).den) (i j:Int):Prop:=0<=i/\i.toNat<(show MQ from c.1).length/\0<=j/\j.toNat<(show MQ from c.2.1).length/\YV ((show MQ from c.1).getD i.toNat []) ((show MQ from c.2.1).getD j.toNat [])
def gMu (c:(nest TMu).den) (i j:Nat):Rat:=fG ((show MQ from c.1).getD i []) ((show MQ from c.2.1).getD j []) ((show MQ from c.1).getD i []).length
theorem a6B:aS Tryz.prog 232 (b4Y TMu b6c gMu):=by
 refine qQ (nil0.ad a1b) [6] Tryz.func232 rfl (by decide) (fun x=>[]) (fun x hp=>?_)
 obtain⟨i,j,c⟩:=x
 change Int at i
 change Int at j
 obtain⟨a,b,u⟩:=c
 change List (List Rat) at a
 change List (List Rat) at b
 refine dD ((0<=i/\i<aB a.length/\0<=j/\j<aB b.length/\YV (List.getD a i.toNat (aJ Rat)) (List.getD b j.toNat (aJ Rat))/\True)/\True/\fG (List.getD a i.toNat (aJ Rat)) (List.getD b j.toNat (aJ Rat)) (List.getD a i.toNat (aJ Rat)).length=gMu (a,b,u) i.toNat j.toNat/\True) (by kernel_rfl) ?_
 try dsimp only[aB,asT,aA,aJ] at *
 have h1:0<=i/\i.toNat<a.length/\0<=j/\j.toNat<b.length/\YV (a.getD i.toNat []) (b.getD j.toNat []):=hp
 exact⟨⟨h1.1,by omega,h1.2.2.1,by omega,h1.2.2.2.2,trivial⟩,trivial,rfl,trivial⟩
theorem a9Q:NOk Tryz.prog 184 (b0c 276 TCo b6b gCo):=by
 refine a0e (nil0.ad a6A) ⟨[],[],[(11,tR)]⟩ Tryz.func184 rfl (by decide) (fun x=>ZY x.1 x.2.1 (gCo x.2.2.1)) (fun x hp=>?_)
 obtain⟨m,n,c,u⟩:=x
 obtain⟨R,C,hR,hC,r2,c2,hP⟩:=hp
 change m=(R:Int) at hR
 change n=(C:Int) at hC
 subst hR hC
 refine dD (QX R C (gCo c) (b6b c) (fun y=>iM R C (gCo c)=y)) (by kernel_rfl) ?_
 exact JZ r2 c2 hP rfl
theorem a9S:NOk Tryz.prog 184 (b0c 273 TTu b3c gTu):=by
 refine a0e (nil0.ad UY) ⟨[],[],[(11,tR)]⟩ Tryz.func184 rfl (by decide) (fun x=>ZY x.1 x.2.1 (gTu x.2.2.1)) (fun x hp=>?_)
 obtain⟨m,n,c,u⟩:=x
 obtain⟨R,C,hR,hC,r2,c2,hP⟩:=hp
 change m=(R:Int) at hR
 change n=(C:Int) at hC
 subst hR hC
 refine dD (QX R C (gTu c) (b3c c) (fun y=>iM R C (gTu c)=y)) (by kernel_rfl) ?_
 exact JZ r2 c2 hP rfl
theorem a9R:NOk Tryz.prog 184 (b0c 232 TMu b6c gMu):=by
 refine a0e (nil0.ad a6B) ⟨[],[],[(11,tR)]⟩ Tryz.func184 rfl (by decide) (fun x=>ZY x.1 x.2.1 (gMu x.2.2.1)) (fun x hp=>?_)
 obtain⟨m,n,c,u⟩:=x
 obtain⟨R,C,hR,hC,r2,c2,hP⟩:=hp
 change m=(R:Int) at hR
 change n=(C:Int) at hC
 subst hR hC
 refine dD (QX R C (gMu c) (b6c c) (fun y=>iM R C (gMu c)=y)) (by kernel_rfl) ?_
 exact JZ r2 c2 hP rfl
theorem a4m (x:List Rat):mF (fun(x:Ty.den (Ty.lf Lf.rat))=>dP []) x:=jX.mpr fun _ _=>trivial
theorem a4n (a:MQ):mF (fun(x:Ty.den (Ty.list (Ty.lf Lf.rat)))=>dP [mF (fun(x:Ty.den (Ty.lf Lf.rat))=>dP []) x]) a:=jX.mpr fun r _=>⟨a4m r,trivial⟩
theorem ifF {b:Bool} {p q:Prop} (h:b=false) (hq:q):ifB b p q:=by subst h;exact hq
theorem b0e {x:Int} (h:x=0):(x != 0)=false:=by rw[h];rfl
theorem okM.pos {a:MQ} (h:okM a):0<a.length:=by have:=h.1.2.2.1;omega
theorem okM.poz {a:MQ} (h:okM a):(0:Int)<(a.length:Int):=by have:=h.pos;omega
theorem okM.r64 {a:MQ} (h:okM a):a.length<=64:=h.1.2.2.2.1
theorem okM.c1 {a:MQ} (h:okM a):1<=wdM a:=h.1.2.2.2.2.1
theorem okM.c64 {a:MQ} (h:okM a):wdM a<=64:=h.1.2.2.2.2.2
theorem okM.row {a:MQ} (h:okM a) {i:Nat} (hi:i<a.length):(a.getD i []).length=wdM a:=h.1.row hi
noncomputable def b2a:Ctr:=⟨[tM],[tM],fun x=>okM x.1,fun x=>(tab (wdM (show MQ from x.1)) (show MQ from x.1).length (tr (ent x.1)),())⟩
theorem a3V:aS Tryz.prog 231 b2a:=by
 refine bH ((((nil0.ad UY).an a9Q).an a9S).an a9R) ⟨[],[],[]⟩ Tryz.func231 rfl (by decide) (fun x=>[]) (fun x hp=>?_)
 obtain⟨a,u⟩:=x
 change List (List Rat) at a
 refine dD ((asT Int 0<=0/\0<aB a.length/\b4H TTu b3c (aB (List.getD a 0 (aJ Rat)).length,aB a.length,(a,()),())/\True)/\(mF (fun(x:Ty.den (Ty.list (Ty.lf Lf.jF)))=>dP (mF (fun(x:Ty.den (Ty.lf Lf.jF))=>dP ((aG.ok x=true)::aJ Cd)) x::aJ Cd)) (iM (aB (List.getD a 0 (aJ Rat)).length).toNat (aB a.length).toNat (gTu (a,())))/\True)/\List.map (fun(xs:Ty.den (Ty.list (Ty.lf Lf.jF)))=>List.map (fun(x:Ty.den (Ty.lf Lf.jF))=>aG.x x) xs) (iM (aB (List.getD a 0 (aJ Rat)).length).toNat (aB a.length).toNat (gTu (a,())))=tab (wdM a) a.length (tr (ent a))/\True) (by kernel_rfl) ?_
 have ha:okM a:=hp
 exact⟨⟨Int.le_refl 0,ha.poz,⟨wdM a,a.length,rfl,rfl,by have:=ha.c64;omega,by have:=ha.r64;omega,fun i j hi hj=>⟨Int.natCast_nonneg i,Int.natCast_nonneg j,hj,by show i<(a.getD j []).length;rw[ha.row hj];exact hi⟩⟩,trivial⟩,⟨b3T _ _ _,trivial⟩,b9q _ _ _,trivial⟩
noncomputable def b1Z:Ctr:=⟨[tM],[tM,tI],fun x=>okM x.1,fun x=>(tab (wdM (show MQ from x.1)) (show MQ from x.1).length (tr (ent x.1)),(0:Int),())⟩
theorem TA:aS Tryz.prog 153 b1Z:=by
 refine bH ((nil0.ad ED).ad a3V) ⟨[],[],[]⟩ Tryz.func153 rfl (by decide) (fun x=>[]) (fun x hp=>?_)
 obtain⟨a,u⟩:=x
 change List (List Rat) at a
 refine dD (let A₀:=(List.map (fun(xs:Ty.den (Ty.list (Ty.lf Lf.rat)))=>List.map (fun(x:Ty.den (Ty.lf Lf.rat))=>kC x) xs) a);(mF (fun(x:Ty.den (Ty.list (Ty.lf Lf.rat)))=>dP (mF (fun(x:Ty.den (Ty.lf Lf.rat))=>dP (aJ Cd)) x::aJ Cd)) a/\KJ A₀/\True)/\ifB (vO A₀ != 0) (True/\aJ (List Rat)=tab (wdM a) a.length (tr (ent a))/\True/\vO A₀=0/\True) ((okM a/\True)/\True/\tab (wdM a) a.length (tr (ent a))=tab (wdM a) a.length (tr (ent a))/\True/\asT Int 0=0/\True)) (by kernel_rfl) ?_
 have ha:okM a:=hp
 exact⟨⟨a4n a,ha.short,trivial⟩,ifF (b0e ha.chk) ⟨⟨ha,trivial⟩,trivial,rfl,trivial,rfl,trivial⟩⟩
def b0l (R C:Nat) (e:Mt) (n:Nat):Prop:=∀ t,t<=n->∀ i,i<R->∀ c,c<C->rsz ((red R e t).1 i c)<=10000000
theorem b0l.at {R C n:Nat} {e:Mt} (h:b0l R C e n) {i c:Nat} (hi:i<R) (hc:c<C):rsz (e i c)<=10000000:=h 0 (by omega) i hi c hc
theorem b0l.mono {R C n m:Nat} {e:Mt} (h:b0l R C e n) (hm:m<=n):b0l R C e m:=fun t ht=>h t (by omega)
def mulM (a b:MQ):MQ:=tab a.length (wdM b) (mm b.length (ent a) (ent b))
def trM (a:MQ):MQ:=tab (wdM a) a.length (tr (ent a))
def b1S (a b:MQ):MQ:=tab a.length (wdM a) (ma (ent a) (ent b))
def b3R (a b:MQ):MQ:=tab a.length (wdM a) (ms (ent a) (ent b))
def b2G (a:MQ):Mt × List Nat:=red a.length (b1U a.length (ent a) idm) a.length
def b2F (a:MQ):MQ:=tab a.length a.length fun i j=>(b2G a).1 i (a.length+j)
def mvL (a:MQ) (x:List Rat):List Rat:=(List.range a.length).map (mv (wdM a) (ent a) (lv x))
instance c3e (N:Nat) (p:Nat->Prop) [DecidablePred p]:Decidable (∀ i,i<N->p i):=Nat.decidableBallLT N (fun i _=>p i)
def CdM (a:MQ) (K:Nat):Prop:=Cdn (ent a) a.length (wdM a) K
theorem isM.len {a:MQ} {R C:Nat} (h:isM a R C):a.length=R:=h.1
theorem isM.self {a:MQ} {R C:Nat} (h:isM a R C):isM a a.length (wdM a):=by rw[h.len,h.wd];exact h
theorem b9r {R C:Nat} {f:Nat->Nat->Rat} (h:1<=R):wdM (tab R C f)=C:=by
 show ((tab R C f).getD 0 []).length=C;rw[IL (by omega)];simp
theorem a0y {R C K:Nat} {f:Mt} (h:1<=R) (H:Cdn f R C K):CdM (tab R C f) K:=by
 unfold CdM;rw[lD,b9r h];exact H.congr fun i hi j hj=>a4H hi hj
theorem CdM.sz {a:MQ} {K L:Nat} (H:CdM a K) (h:K<=L):szM a L:=fun i hi j hj=>dh (Cdn.rsz H hi hj) h
theorem CdM.ok {a:MQ} {R C K:Nat} (H:CdM a K) (h:isM a R C) (hK:K<=100000000):okM a:=⟨h.self,H.sz hK⟩
theorem isM.mul {a b:MQ} {R C D n:Nat} (h:isM a R C) (g:isM b n D):isM (mulM a b) R D:=by
 unfold mulM;rw[h.len,g.wd];exact IK h.2.2.1 h.2.2.2.1 g.2.2.2.2.1 g.2.2.2.2.2
theorem isM.add {a b:MQ} {R C:Nat} (h:isM a R C):isM (b1S a b) R C:=by
 unfold b1S;rw[h.len,h.wd];exact IK h.2.2.1 h.2.2.2.1 h.2.2.2.2.1 h.2.2.2.2.2
theorem isM.sub {a b:MQ} {R C:Nat} (h:isM a R C):isM (b3R a b) R C:=by
 unfold b3R;rw[h.len,h.wd];exact IK h.2.2.1 h.2.2.2.1 h.2.2.2.2.1 h.2.2.2.2.2
theorem isM.inv {a:MQ} {n C:Nat} (h:isM a n C):isM (b2F a) n n:=by
 unfold b2F;rw[h.len];exact IK h.2.2.1 h.2.2.2.1 h.2.2.1 h.2.2.2.1
theorem CdM.mul {a b:MQ} {R n C K L:Nat} (H:CdM a K) (G:CdM b L) (h:isM a R n) (g:isM b n C):CdM (mulM a b) (K+L+n):=by
 unfold mulM;rw[h.len,g.len,g.wd]
 refine a0y h.2.2.1 (Cdn.mm ?_ ?_)
 ·have:=H;unfold CdM at this;rwa [h.len,h.wd] at this
 ·have:=G;unfold CdM at this;rwa [g.len,g.wd] at this
theorem CdM.add {a b:MQ} {R C K L:Nat} (H:CdM a K) (G:CdM b L) (h:isM a R C) (g:isM b R C):CdM (b1S a b) (K+L+1):=by
 unfold b1S;rw[h.len,h.wd]
 refine a0y h.2.2.1 (Cdn.add ?_ ?_)
 ·have:=H;unfold CdM at this;rwa [h.len,h.wd] at this
 ·have:=G;unfold CdM at this;rwa [g.len,g.wd] at this
theorem CdM.sub {a b:MQ} {R C K L:Nat} (H:CdM a K) (G:CdM b L) (h:isM a R C) (g:isM b R C):CdM (b3R a b) (K+L+1):=by
 unfold b3R;rw[h.len,h.wd]
 refine a0y h.2.2.1 (Cdn.sub ?_ ?_)
 ·have:=H;unfold CdM at this;rwa [h.len,h.wd] at this
 ·have:=G;unfold CdM at this;rwa [g.len,g.wd] at this
theorem CdM.b2G {a:MQ} {n K:Nat} (H:CdM a K) (h:isM a n n):Cdn (b1U n (ent a) idm) n (n+n) (K+1):=by
 have:=H;unfold CdM at this;rw[h.len,h.wd] at this
 exact Cdn.bes this (Cdn.idm n n)
theorem CdM.inv {a:MQ} {n K:Nat} (H:CdM a K) (h:isM a n n):CdM (b2F a) (2 ^ n*(K+2)-1):=by
 unfold b2F Proofs.YtbkocjmmbkifjaaGreat.b2G;rw[h.len]
 refine a0y h.2.2.1 ?_
 have H2:=Cdn.red (H.b2G h) n (by omega)
 obtain⟨D,d1,d2,d3⟩:=H2
 exact⟨D,d1,d2,fun i hi j hj=>d3 i hi (n+j) (by omega)⟩
theorem b1v {R C:Nat} {f:Nat->Nat->Rat} {i j:Nat} (v:Rat) (hi:i<R):(tab R C f).set i (((tab R C f).getD i []).set j v)=tab R C (fun a b=>if a=i/\b=j then v else f a b):=by
 rw[IL hi,map_set]
 unfold tab;rw[map_set]
 refine Ad fun k _=>?_
 by_cases e:k=i
 ·subst e;rw[jv rfl]
  refine Ad fun d _=>?_
  show _=if k=k/\d=j then v else f k d
  by_cases e2:d=j
  ·rw[jv e2,jv ⟨rfl,e2⟩]
  ·rw[jq e2,jq (fun h=>e2 h.2)]
 ·rw[jq e]
  refine Ad fun d _=>?_
  show _=if k=i/\d=j then v else f k d
  rw[jq (fun h=>e h.1)]
noncomputable def c0p:Ctr:=⟨[.ref tM],[tI],fun x=>0<(show MQ from x.1).length,fun x=>((wdM (show MQ from x.1):Int),())⟩
theorem a1M:aS Tryz.prog 285 c0p:=by
 refine bH nil0 ⟨[],[],[]⟩ Tryz.func285 rfl (by decide) (fun x=>[]) (fun x hp=>?_)
 obtain⟨a,u⟩:=x
 change List (List Rat) at a
 refine dD ((asT Int 0<=0/\0<aB a.length/\True)/\True/\aB (List.getD a 0 (aJ Rat)).length=aB (wdM a)/\True) (by kernel_rfl) ?_
 have hZ:(⟨false,0,[],[]⟩:aG)=bM:=rfl
 dsimp only[aB,asT,aA,aJ,Ty.den,Lf.den] at *
 simp only[hZ,Int.toNat_natCast,aO,ay,ak,ni,lg,iE,nameAt,cO,jQ,lD,rowAt,jc,iq]
 have hp:0<a.length:=hp
 exact⟨Int.le_refl 0,by omega⟩
noncomputable def c0q:Ctr:=⟨[tM,.list tQ,.clo 285 (.pair (.ref tM) .unit)],[tI],fun x=>okM x.1/\(∀ q ∈ (show LQ' from x.2.1),rsz q<=100000000)/\(show MQ from x.2.2.1.1)=(show MQ from x.1)/\(show LQ' from x.2.1).length=wdM (show MQ from x.1),fun x=>((0:Int),())⟩
theorem a9P:aS Tryz.prog 284 c0q:=by
 refine bH ((((nil0.ad sW).ad ED).ad sW).ad a1M) ⟨[],[],[]⟩ Tryz.func284 rfl (by decide) (fun x=>[]) (fun x hp=>?_)
 obtain⟨a,x,⟨b,v⟩,u⟩:=x
 change List (List Rat) at a
 change List Rat at x
 change List (List Rat) at b
 refine dD (let A₁:=(fun(x:Ty.den (Ty.lf Lf.rat))=>kC x);let A₀:=(List.map (fun(xs:Ty.den (Ty.list (Ty.lf Lf.rat)))=>List.map A₁ xs) a);(mF (fun(x:Ty.den (Ty.list (Ty.lf Lf.rat)))=>dP (mF (fun(x:Ty.den (Ty.lf Lf.rat))=>dP (aJ Cd)) x::aJ Cd)) a/\KJ A₀/\True)/\ifB (vO A₀ != 0) (True/\vO A₀=0/\True) ((mF (fun(x:Ty.den (Ty.lf Lf.rat))=>dP (aJ Cd)) x/\(List.length (List.map A₁ x)<=1000000/\∀ (q:aG),q ∈ List.map A₁ x->vJ q)/\True)/\ifB (!!List.any (List.map A₁ x) fun(q:aG)=>!aG.ok q) (True/\asT Int 1=0/\True) ((0<List.length b/\True)/\ifB (aB x.length != aB (wdM b)) (True/\asT Int 4=0/\True) (True/\asT Int 0=0/\True)))) (by kernel_rfl) ?_
 have hZ:(⟨false,0,[],[]⟩:aG)=bM:=rfl
 dsimp only[aB,asT,aA,aJ,Ty.den,Lf.den] at *
 simp only[hZ,Int.toNat_natCast,aO,ay,ak,ni,lg,iE,nameAt,cO,jQ,lD,rowAt,jc,iq]
 have hp:okM a/\(∀ q ∈ x,rsz q<=100000000)/\b=a/\x.length=wdM a:=hp
 obtain⟨ha,sx,rfl,hx⟩:=hp
 have q1:=ha.r64
 have q2:=ha.c64
 have e1:=b0e ha.chk
 have e2:(List.map (fun x=>kC x) x).any (fun q=>!q.ok)=false:=Bh.mpr fun q hq=>by
  obtain⟨y,_,rfl⟩:=uj.mp hq;simp[kC]
 refine⟨⟨a4n b,ha.short⟩,fun h=>absurd (h.symm.trans e1) (by decide),fun h=>⟨⟨a4m x,by rw[xw];omega,fun q hq=>?_⟩,fun h2=>?_,fun h2=>⟨ha.pos,fun h3=>by rw[hx] at h3;simp at h3,fun _=>trivial⟩⟩⟩
 ·obtain⟨y,hy,rfl⟩:=uj.mp hq
  have:=sx y hy
  have ⟨h3,h4⟩:=WM y
  exact⟨by omega,by omega⟩
 ·rw[e2] at h2;cases h2
noncomputable def c1R:Ctr:=⟨[tM,.list tQ],[.list tQ],fun x=>okM x.1/\szM x.1 1000000/\(show LQ' from x.2.1).length=wdM (show MQ from x.1)/\∀ q ∈ (show LQ' from x.2.1),rsz q<=1000000,fun x=>(mvL x.1 x.2.1,())⟩
theorem b1T:aS Tryz.prog 286 c1R:=by
 refine bH (nil0.ad a1b) ⟨[],[],[]⟩ Tryz.func286 rfl (by decide) (fun x=>[.inv {k:Nat // k<=(show MQ from x.1).length} (fun k=>[(10,.val tI (k.1:Int)),(5,.own 19 0)]++[(18,.any),(19,.any)]) (fun k=>[(19,.row 47 tQ ((List.range k.1).map (mv (wdM (show MQ from x.1)) (ent (show MQ from x.1)) (lv x.2.1))) 0)]) (fun k=>(show MQ from x.1).length-k.1) ⟨0,by omega⟩ (fun _=>[])]) (fun x hp=>?_)
 obtain⟨a,x,u⟩:=x
 change List (List Rat) at a
 change List Rat at x
 refine dD (let A₀:=(mv (wdM a) (ent a) (lv x));(asT Int 0=0/\(True/\asT (List Rat) (aJ Rat)=aJ Rat)/\(asT (List Rat) (aJ Rat)=aJ Rat/\0=0/\asT Bool true=true)/\True)/\∀ (i:{ k:Nat // k<=List.length a }),let A₁:=(List.getD a (aB (aA i)).toNat (aJ Rat));asT Bool true=true/\ifB (decide (aB (aA i)<aB a.length)) ((0<=aB (aA i)/\aB (aA i)<aB a.length/\True)/\(YV A₁ x/\List.length (List.map A₀ (List.range (aA i)))+List.length (fG A₁ x A₁.length::aJ Rat)<=1000000000/\True)/\∃ (i':{ k:Nat // k<=List.length a }),List.length a-aA i'<List.length a-aA i/\IntKind.wrap IntKind.i64 (aB (aA i)+1)=aB (aA i')/\List.map A₀ (List.range (aA i))++fG A₁ x A₁.length::aJ Rat=List.map A₀ (List.range (aA i'))/\True) (True/\List.map A₀ (List.range (aA i))=mvL a x/\True)) (by kernel_rfl) ?_
 have hZ:(⟨false,0,[],[]⟩:aG)=bM:=rfl
 dsimp only[aB,asT,aA,aJ,Ty.den,Lf.den] at *
 simp only[hZ,Int.toNat_natCast,aO,ay,ak,ni,lg,iE,nameAt,cO,jQ,lD,rowAt,jc,iq]
 have hp:okM a/\szM a 1000000/\x.length=wdM a/\∀ q ∈ x,rsz q<=1000000:=hp
 obtain⟨ha,sa,hx,sx⟩:=hp
 have q1:=ha.r64
 have q2:=ha.c64
 refine fun i=>⟨fun h1=>?_,fun h1=>?_⟩
 ·have hi:i.1<a.length:=by omega
  have hr:=ha.row hi
  refine⟨⟨by omega,h1⟩,⟨⟨by rw[hr,hx],by rw[hr];exact q2,fun c hc=>⟨sa i.1 hi c (by omega),aV sx (by omega)⟩⟩,by simp;omega⟩,⟨i.1+1,by omega⟩,by simp only;omega,by rw[bI (by omega) (by omega)];rfl,?_⟩
  rw[Aw,List.map_append,hr];rfl
 ·have hi:i.1=a.length:=by have:=i.2;omega
  rw[hi];rfl
noncomputable def b9S:Ctr:=⟨[tM,.list tQ],[.list tQ,tI],fun x=>okM x.1/\szM x.1 1000000/\(show LQ' from x.2.1).length=wdM (show MQ from x.1)/\∀ q ∈ (show LQ' from x.2.1),rsz q<=1000000,fun x=>(mvL x.1 x.2.1,(0:Int),())⟩
theorem a7M:aS Tryz.prog 262 b9S:=by
 refine bH (((nil0.ad a1M).ad a9P).ad b1T) ⟨[],[],[]⟩ Tryz.func262 rfl (by decide) (fun x=>[]) (fun x hp=>?_)
 obtain⟨a,x,u⟩:=x
 change List (List Rat) at a
 change List Rat at x
 refine dD (((okM a/\(∀ (q:Rat),q ∈ x->rsz q<=100000000)/\a=a/\List.length x=wdM a)/\True)/\((okM a/\szM a 1000000/\List.length x=wdM a/\∀ (q:Rat),q ∈ x->rsz q<=1000000)/\True)/\True/\mvL a x=mvL a x/\True/\asT Int 0=0/\True) (by kernel_rfl) ?_
 have hZ:(⟨false,0,[],[]⟩:aG)=bM:=rfl
 dsimp only[aB,asT,aA,aJ,Ty.den,Lf.den] at *
 simp only[hZ,Int.toNat_natCast,aO,ay,ak,ni,lg,iE,nameAt,cO,jQ,lD,rowAt,jc,iq]
 have hp:okM a/\szM a 1000000/\x.length=wdM a/\∀ q ∈ x,rsz q<=1000000:=hp
 obtain⟨ha,sa,hx,sx⟩:=hp
 exact⟨⟨ha,fun q hq=>dh (sx q hq) (by omega),hx⟩,ha,sa,hx,sx⟩
theorem QY {n:Nat} {a a' b b':Mt} {i j:Nat} (h1:∀ k,k<n->a i k=a' i k) (h2:∀ k,k<n->b k j=b' k j):mm n a b i j=mm n a' b' i j:=lV n fun k hk=>by rw[h1 k hk,h2 k hk]
theorem Gau.congr {N f:Nat} {n g n' g':Mt} (H:Gau N f n g) (h1:∀ i,i<N->∀ j,j<N->n' i j=n i j) (h2:∀ i,i<N->∀ j,j<f->g' i j=g i j):Gau N f n' g' :=
 ⟨fun i hi j hj=>by rw[h1 i hi j hj,h1 j hj i hi];exact H.sym i hi j hj,fun i hi j hj=>by rw[<-H.ng i hi j hj];exact QY (fun k hk=>h1 i hi k hk) (fun k hk=>h2 k hk j hj),
  by rw[(RY (C:=f) h2 f (au _)).1];exact H.rank,by rw[(RY (C:=N) h1 N (au _)).1];exact H.dim⟩
theorem OB.congr {n:Nat} {a x a' x':Mt} (H:OB n a x) (h1:∀ i,i<n->∀ j,j<n->a' i j=a i j) (h2:∀ i,i<n->∀ j,j<n->x' i j=x i j):OB n a' x' :=
 ⟨fun i hi j hj=>by rw[<-H.r i hi j hj];exact QY (fun k hk=>h1 i hi k hk) (fun k hk=>h2 k hk j hj),fun i hi j hj=>by rw[<-H.l i hi j hj];exact QY (fun k hk=>h2 i hi k hk) (fun k hk=>h1 k hk j hj)⟩
theorem a5d (a:MQ) (x:List Rat):(mvL a x).length=a.length:=by simp[mvL]
theorem b4I {a:MQ} {R C:Nat} (h:isM a R C) {x:List Rat} {i:Nat} (hi:i<R):lv (mvL a x) i=mv C (ent a) (lv x) i:=by
 unfold mvL;rw[h.len,h.wd];exact a9X hi
theorem b5S {a:MQ} {R C K L:Nat} (h:isM a R C) (ha:szM a K) {x:LQ'} (hx:∀ q ∈ x,rsz q<=L) (hl:x.length=C):∀ q ∈ mvL a x,rsz q<=C*(K+L+1)+1:=fun q hq=>by
 obtain⟨i,hi,rfl⟩:=Bl hq
 have hi2:i<R:=by rw[a5d,h.len] at hi;exact hi
 have e:(mvL a x)[i]=mv C (ent a) (lv x) i:=by
  rw[<-b4I h hi2];unfold lv;rw[dn,dw hi];rfl
 rw[e]
 exact a0w (K:=K+L) (f:=fun k=>ent a i k*lv x k) C (fun k hk=>by
  have y1:rsz (ent a i k)<=K:=ha i (by rw[h.len];exact hi2) k (by rw[h.wd];exact hk)
  have y2:rsz (lv x k)<=L:=hx _ (by unfold lv;rw[dn,dw (by omega)];exact uw _)
  have y3:=oD (ent a i k) (lv x k)
  show rsz (ent a i k*lv x k)<=_
  omega)
end Go.Proofs.YtbkocjmmbkifjaaGreat
