/-
  Lemmas for the theorem vrelative28_holds, part 23 of 35.
-/
import Derived.Test.YtbkocjmmbkifjaaGreatQr22
namespace Go.Proofs.YtbkocjmmbkifjaaGreat
open Go Go.RowKit
theorem Bd:type_of% @Rat.zero_mul:=@Rat.zero_mul
theorem Dq:type_of% @Rat.intCast_inj:=@Rat.intCast_inj
theorem Es:type_of% @Tryz.func184:=@Tryz.func184
section
theorem MW {p:List Nat} (h:p.Nodup) {t:Nat} (ht:t<p.length):p.idxOf p[t]=t:=by have h1:p.idxOf p[t]<p.length:=List.idxOf_lt_length_iff.mpr (uq ht);have h2:p[p.idxOf p[t]]=p[t]:=List.getElem_idxOf h1;exact(List.getElem_inj h).mp h2
theorem a6G {p:List Nat} {c:Nat} (h:c ∈ p):p.idxOf c<p.length/\p.getD (p.idxOf c) 0=c:=by have h1:p.idxOf c<p.length:=List.idxOf_lt_length_iff.mpr h;refine⟨h1,?_⟩;rw[bg,dw h1];exact List.getElem_idxOf h1
theorem b3O {n:Nat}:∀ (p:List Nat),p.Nodup->(∀ j ∈ p,j<n)->sm n (fun c=>if c ∈ p then 1 else 0)=(p.length:Nat)
 | [],_,_=>rV n (fun c _=>rfl)
 | a::p,hd,hl=>by
  have h1:=b3O p (List.nodup_cons.mp hd).2 (fun j hj=>hl j (jd _ hj));have h2:sm n (fun c=>if c=a then (1:Rat) else 0)=1:=by rw[NZ a n (hl a (je ..)) (fun i _ hi=>bn hi),dn rfl]
  have h3:=(List.nodup_cons.mp hd).1;rw[show (fun c=>if c ∈ a::p then (1:Rat) else 0)=(fun c=>(if c=a then (1:Rat) else 0)+(if c ∈ p then 1 else 0)) from funext fun c=>by
   by_cases e:c=a
   ·subst e;rw[dn (je ..),dn rfl,bn h3];grind
   ·by_cases e2:c ∈ p
    ·rw[dn (jd _ e2),bn e,dn e2];grind
    ·rw[bn (by simp[e,e2]),bn e,bn e2];grind,NW,h1,h2,List.length_cons]
  grind
theorem a7F:∀ n,sm n (fun _=>1)=(n:Nat)
 | 0=>rfl
 | n+1=>by show sm n (fun _=>1)+1=_;rw[a7F n];grind
def frees (n:Nat) (p:List Nat):List Nat:=(List.range n).filter (fun c=>decide (c ∉ p))
theorem a7E (p:List Nat):∀ n,sm n (fun c=>if c ∈ p then 0 else 1)=((frees n p).length:Nat)
 | 0=>rfl
 | n+1=>by
  show sm n (fun c=>if c ∈ p then 0 else 1)+(if n ∈ p then 0 else 1)=_;rw[a7E p n];unfold frees;rw[wz,List.filter_append,dh];by_cases h:n ∈ p
  ·simp[h];grind
  ·simp[h]
theorem YF {n:Nat} {p:List Nat} (hd:p.Nodup) (hl:∀ j ∈ p,j<n):(frees n p).length+p.length=n:=by
 have h1:=b3O p hd hl;have h2:=a7E p n;have h3:=a7F n;have h4:=NW (fun c=>if c ∈ p then (1:Rat) else 0) (fun c=>if c ∈ p then (0:Rat) else 1) n;rw[show (fun c=>(if c ∈ p then (1:Rat) else 0)+(if c ∈ p then (0:Rat) else 1))=(fun _=>1) from funext fun c=>by split<;>grind,h1,h2,h3] at h4;have h5:((n:Nat):Rat)=((p.length+(frees n p).length:Nat):Rat):=by rw[h4];push_cast;rfl
 have:=Rat.natCast_inj.mp h5;omega
theorem YG {n:Nat} {p:List Nat} {c:Nat}:c ∈ frees n p↔c<n/\c ∉ p:=by unfold frees;simp
section
variable {R n:Nat} {e m:Mt} {p:List Nat}
theorem Ech.row (E:Ech R e n m p) {t:Nat} (ht:t<p.length) (x:Nat->Rat):mv n m x t=x p[t]+sm n (fun c=>if c ∈ p then 0 else m t c*x c):=by
 have hl:=E.le;have h1:sm n (fun c=>if c ∈ p then m t c*x c else 0)=x p[t]:=by
  rw[NZ p[t] n (E.lt _ (uq ht)) (fun c _ hc=>?_),dn (uq ht),E.unit t ht t (by omega),dn rfl]
  ·grind
  ·by_cases h:c ∈ p
   ·rw[dn h];have ⟨a1,a2⟩:=a6G h;have a3:p[p.idxOf c]=c:=List.getElem_idxOf a1;have:=E.unit (p.idxOf c) a1 t (by omega);rw[a3,bn (fun h=>hc (by rw[<-a3];congr 1;exact h.symm))] at this;rw[this];grind
   ·rw[bn h]
 rw[<-h1,<-NW];exact gV n fun c _=>by split<;>grind
theorem Ech.low (E:Ech R e n m p) {i:Nat} (h1:p.length<=i) (h2:i<R) (x:Nat->Rat):mv n m x i=0 :=
 rV n fun c hc=>by rw[E.rest i h1 h2 c hc];grind
def a8R (m:Mt) (p:List Nat) (j:Nat):Nat->Rat:=fun c=>if c=j then 1 else if c ∈ p then-m (p.idxOf c) j else 0
theorem ZI (m:Mt) (p:List Nat) (j:Nat):a8R m p j j=1:=dn rfl
theorem a8S {m:Mt} {p:List Nat} {j c:Nat} (h:c ∉ p):a8R m p j c=if c=j then 1 else 0:=by unfold a8R;rw[bn h]
theorem b2G (E:Ech R e n m p) {j t:Nat} (ht:t<p.length) (hj:j ∉ p):a8R m p j p[t]=- m t j:=by unfold a8R;rw[bn (fun h=>hj (by rw[<-h];exact uq ht)),dn (uq ht),MW E.nd ht]
theorem Ech.null (E:Ech R e n m p) {j:Nat} (hn:j<n) (hj:j ∉ p):∀ i,i<R->mv n e (a8R m p j) i=0:=by
 refine(E.sol n _).mpr fun i hi=>?_;by_cases h:i<p.length
 ·rw[E.row h,b2G E h hj,NZ j n hn (fun c _ hc=>?_),bn hj,ZI]
  ·grind
  ·split
   ·rfl
   ·rename_i h;rw[a8S h,bn hc];grind
 ·exact E.low (by omega) hi _
theorem Ech.span (E:Ech R e n m p) {x:Nat->Rat} (hx:∀ i,i<R->mv n e x i=0) (hf:∀ c,c<n->c ∉ p->x c=0):∀ c,c<n->x c=0:=by
 intro c hc;by_cases h:c ∈ p
 ·have ⟨a1,a2⟩:=a6G h;have a3:p[p.idxOf c]=c:=List.getElem_idxOf a1;have h1:=(E.sol n x).mp hx (p.idxOf c) (qh a1 E.le);rw[E.row a1,a3,rV n (fun c hc=>?_)] at h1
  ·grind
  ·split
   ·rfl
   ·rename_i h;rw[hf c hc h];grind
 ·exact hf c hc h
theorem Ech.full (E:Ech R e n m p) (h:p.length=n) {c:Nat} (hc:c<n):c ∈ p:=by
 have h1:=YF E.nd E.lt;by_cases hm:c ∈ p
 ·exact hm
 ·have:=List.length_pos_of_mem (YG.mpr ⟨hc,hm⟩);omega
theorem Ech.inj (E:Ech R e n m p):p.length=n↔∀ x,(∀ i,i<R->mv n e x i=0)->∀ c,c<n->x c=0:=by
 constructor
 ·intro h x hx;exact E.span hx (fun c hc hn=>absurd (E.full h hc) hn)
 ·intro h;have h1:=YF E.nd E.lt;rcases Ai (frees n p).length with h0|h0
  ·omega
  ·have ⟨h2,h3⟩:=YG.mp (uq h0);have:=h _ (E.null h2 h3) _ h2;rw[ZI] at this;exact absurd this (by decide)
theorem Ech.col (E:Ech R e n m p) {q:Nat} (hq:n<=q) (x:Nat->Rat):(∀ i,i<R->mv n e x i=e i q)↔(∀ i,i<R->mv n m x i=m i q):=by
 have key:∀ (a:Mt) i,mv (q+1) a (fun c=>if c<n then x c else if c=q then -1 else 0) i=mv n a x i-a i q:=fun a i=>by
  unfold mv;show sm q _+_=_;obtain⟨d,rfl⟩:∃ d,q=n+d:=⟨q-n,by omega⟩;rw[b3N,rV d (fun c hc=>?_),gV n (g:=fun k=>a i k*x k) (fun c hc=>by simp only[dn hc])]
  ·simp only[bn (show ¬ n+d<n by omega)];simp only[Du];grind
  ·simp only[bn (show ¬ n+c<n by omega),bn (show ¬ n+c=n+d by omega)];grind
 have h:=E.sol (q+1) (fun c=>if c<n then x c else if c=q then -1 else 0);simp only[key] at h;constructor
 ·intro h1 i hi;have:=h.mp (fun i hi=>by rw[h1 i hi];grind) i hi;grind
 ·intro h1 i hi;have:=h.mpr (fun i hi=>by rw[h1 i hi];grind) i hi;grind
def xs (m:Mt) (p:List Nat) (q:Nat):Nat->Rat:=fun c=>if c ∈ p then m (p.idxOf c) q else 0
theorem Ech.solve (E:Ech R e n m p) {q:Nat} (hq:n<=q) (h0:∀ i,p.length<=i->i<R->m i q=0):∀ i,i<R->mv n e (xs m p q) i=e i q:=by
 refine(E.col hq _).mpr fun i hi=>?_;by_cases h:i<p.length
 ·rw[E.row h,rV n (fun c _=>?_)]
  ·unfold xs;rw[dn (uq h),MW E.nd h];grind
  ·split
   ·rfl
   ·rename_i h;unfold xs;rw[bn h];grind
 ·rw[E.low (by omega) hi,h0 i (by omega) hi]
end
theorem a1x (R:Nat) (e:Mt):∀ n,(red R e n).2.length<=n/\((red R e n).2.length=n->(red R e n).2=List.range n)
 | 0=>⟨aj _,fun _=>rfl⟩
 | n+1=>by
  have ⟨h1,h2⟩:=a1x R e n;unfold red;split
  ·exact⟨by omega,fun h=>by omega⟩
  ·refine⟨by simp;omega,fun h=>?_⟩;simp at h;show _++_=_;rw[wz,h2 h]
theorem b3l (R:Nat) (e:Mt) (n:Nat):red R e (n+1)=if fk (red R e n).1 n (red R e n).2.length (R-(red R e n).2.length)=R then red R e n
 else (mF (red R e n).1 (red R e n).2.length (fk (red R e n).1 n (red R e n).2.length (R-(red R e n).2.length)) n,(red R e n).2++[n]):=rfl
theorem a3y {R:Nat} {e f:Mt} {C:Nat} (h:∀ i,i<R->∀ c,c<C->e i c=f i c):∀ n,n<=C->(red R e n).2=(red R f n).2/\∀ i,i<R->∀ c,c<C->(red R e n).1 i c=(red R f n).1 i c
 | 0,_=>⟨rfl,h⟩
 | n+1,hn=>by
  have ⟨h1,h2⟩:=a3y h n (by omega);have hl:=(wL R e n).le;have hk:fk (red R e n).1 n (red R e n).2.length (R-(red R e n).2.length)=fk (red R f n).1 n (red R f n).2.length (R-(red R f n).2.length):=by rw[h1];exact b1d _ _ (fun i _ hi=>h2 i (by rw[<-h1] at hi;omega) n (by omega))
  have ⟨k1,k2⟩:=YD (red R e n).1 n (R-(red R e n).2.length) (red R e n).2.length;unfold red;rw[<-hk,<-h1];generalize fk (red R e n).1 n (red R e n).2.length (R-(red R e n).2.length)=k at *
  by_cases hR:k=R
  ·rw[dn hR,dn hR];exact⟨h1,h2⟩
  ·rw[bn hR,bn hR];refine⟨rfl,fun i hi c hc=>?_⟩;show mF _ _ _ _ i c=mF _ _ _ _ i c;have hsw:∀ c,c<C->fZ (red R e n).1 (red R e n).2.length k i c=fZ (red R f n).1 (red R e n).2.length k i c:=fun c hc=>by
    unfold fZ;split
    ·exact h2 k (by omega) c hc
    ·split
     ·exact h2 _ (by omega) c hc
     ·exact h2 i hi c hc
   unfold mF;rw[h2 k (by omega) c hc,h2 k (by omega) n (by omega),hsw c hc,hsw n (by omega)]
theorem b7a {n:Nat} {e:Mt} (h:(red n e n).2.length=n) {q:Nat} (hq:n<=q):∀ i,i<n->mv n e (fun c=>(red n e n).1 c q) i=e i q:=by
 have E:=wL n e n;have hr:=(a1x n e n).2 h;intro i hi;rw[<-E.solve hq (fun i h1 h2=>by omega) i hi];refine gV n fun c hc=>?_;unfold xs;rw[dn (E.full h hc)];have h3:(red n e n).2.idxOf c=c:=by
  have a1:c<(red n e n).2.length:=by omega
  have a2:(red n e n).2[c]=c:=by simp[hr]
  have:=MW E.nd a1;rwa [a2] at this
 rw[h3]
end
theorem b8R (a:Mt):tr (tr a)=a:=rfl
theorem a3f (m k:Nat) (a b c:Mt):mm m (mm k a b) c=mm k a (mm m b c):=by funext i j;unfold mm;rw[show (fun l=>sm k (fun q=>a i q*b q l)*c l j)=(fun l=>sm k (fun q=>a i q*b q l*c l j)) from funext fun l=>(a1G _ _ k).symm,a1H];refine gV k fun q _=>?_;rw[<-NY];exact gV m fun l _=>by grind
def ma (a b:Mt):Mt:=fun i j=>a i j+b i j
def ms (a b:Mt):Mt:=fun i j=>a i j-b i j
def zm:Mt:=fun _ _=>0
theorem ZC (n f:Nat) (a b:Mt) (x:Nat->Rat) (i:Nat):mv f (mm n a b) x i=mv n a (mv f b x) i :=
 congrFun (congrFun (a3f f n a b (fun k _=>x k)) i) 0
theorem c0o (n:Nat) (a:Mt) (x y:Nat->Rat) (i:Nat):mv n a (fun c=>x c-y c) i=mv n a x i-mv n a y i:=by unfold mv;rw[<-b3P];exact gV n fun k _=>by grind
theorem b9Y {i j:Nat} (h:i≠j):idm i j=0:=bn h
theorem b1G (i:Nat):idm i i=1:=dn rfl
def kF (n:Nat) (a b:Mt):Mt:=fun i j=>if j<n then a i j else b i (j-n)
structure OG (n:Nat) (a x:Mt):Prop where
 r:∀ i,i<n->∀ j,j<n->mm n a x i j=idm i j
 l:∀ i,i<n->∀ j,j<n->mm n x a i j=idm i j
theorem UQ {n:Nat} {a:Mt} {x y:Nat->Rat} {i:Nat} (h:∀ c,c<n->x c=y c):mv n a x i=mv n a y i:=gV n fun c hc=>by rw[h c hc]
theorem b2A {n:Nat} {x:Nat->Rat} {i:Nat} (h:i<n):mv n idm x i=x i:=by unfold mv;rw[NZ i n h (fun k _ hk=>by unfold idm;rw[bn (by omega)];grind)];unfold idm;rw[dn rfl];grind
theorem NJ {n:Nat} {a b:Mt} {x:Nat->Rat} {i:Nat} (h:∀ c,c<n->a i c=b i c):mv n a x i=mv n b x i:=gV n fun c hc=>by rw[h c hc]
theorem OG.mvl {n:Nat} {a x:Mt} (H:OG n a x) (u:Nat->Rat) {i:Nat} (h:i<n):mv n x (mv n a u) i=u i:=by rw[<-ZC,NJ (b:=idm) (fun c hc=>H.l i h c hc),b2A h]
theorem a6K (n:Nat) (a b:Mt) (x:Nat->Rat) (i:Nat):mv n (kF n a b) x i=mv n a x i:=NJ fun _ hc=>dn hc
theorem a1c {n:Nat} {a:Mt} (b:Mt):(red n (kF n a b) n).2.length=n↔(∀ x,(∀ i,i<n->mv n a x i=0)->∀ c,c<n->x c=0):=by have:=(wL n (kF n a b) n).inj;simp only[a6K] at this;exact this
theorem inv_of {n:Nat} {a:Mt} (h:(red n (kF n a idm) n).2.length=n):OG n a (fun i j=>(red n (kF n a idm) n).1 i (n+j)):=by
 have hr:∀ i,i<n->∀ j,j<n->mm n a (fun i j=>(red n (kF n a idm) n).1 i (n+j)) i j=idm i j:=fun i hi j hj=>by have:=b7a h (Nat.le_add_right n j) i hi;rw[a6K] at this;show mv n a (fun c=>(red n (kF n a idm) n).1 c (n+j)) i=_;rw[this];unfold kF;rw[bn (by omega),Ee]
 refine⟨hr,fun i hi j hj=>?_⟩;generalize (fun i j=>(red n (kF n a idm) n).1 i (n+j))=x at hr ⊢;have h1:=(a1c idm).mp h (fun k=>mm n x a k j-idm k j) (fun k hk=>?_) i hi
 ·grind
 ·rw[c0o];have h2:mv n a (fun k=>mm n x a k j) k=mm n a (mm n x a) k j:=rfl;have h3:mv n a (fun k=>idm k j) k=a k j:=by unfold mv;rw[NZ j n hj (fun q _ hq=>by show a k q*idm q j=0;rw[b9Y hq];grind)];show a k j*idm j j=_;rw[b1G];grind
  have h4:mm n (mm n a x) a k j=a k j:=by rw[show mm n (mm n a x) a k j=mv n (mm n a x) (fun q=>a q j) k from rfl,NJ (b:=idm) (fun c hc=>hr k hk c hc),b2A hk]
  rw[h2,h3,<-a3f,h4];grind
def dt (n:Nat) (x y:Nat->Rat):Rat:=sm n fun i=>x i*y i
theorem b8a (n m:Nat) (a:Mt) (x y:Nat->Rat):dt n x (mv m a y)=dt m (mv n (tr a) x) y:=by unfold dt mv;rw[gV n (g:=fun i=>sm m fun k=>x i*(a i k*y k)) (fun i _=>by rw[NY]),a1H];refine gV m fun k _=>?_;rw[<-a1G];exact gV n fun i _=>by show x i*(a i k*y k)=a i k*x i*y k;grind
theorem a2n {n:Nat} {x y z:Nat->Rat} (h:∀ i,i<n->y i=z i):dt n x y=dt n x z:=gV n fun i hi=>by rw[h i hi]
theorem TA {n:Nat} {x y z:Nat->Rat} (h:∀ i,i<n->x i=y i):dt n x z=dt n y z:=gV n fun i hi=>by rw[h i hi]
def Cdn (e:Mt) (R C K:Nat):Prop:=∃ D:Nat,0<D/\nsz D<=K/\∀ i,i<R->∀ j,j<C->∃ z:Int,e i j*(D:Nat)=(z:Int)/\isz z<=K
theorem a6L {D:Nat} (h:0<D):((D:Nat):Rat)≠0:=fun h1=>by have:((D:Nat):Rat)=((0:Nat):Rat):=h1;have:=Rat.natCast_inj.mp this;omega
theorem Cdn.rsz {e:Mt} {R C K:Nat} (H:Cdn e R C K) {i j:Nat} (h1:i<R) (h2:j<C):rsz (e i j)<=K:=by
 obtain⟨D,h0,hD,h⟩:=H;obtain⟨z,hz,hs⟩:=h i h1 j h2;have e1:e i j=Rat.divInt z D:=by rw[zu,<-hz,Rat.div_def];have:((D:Int):Rat)=((D:Nat):Rat):=Rat.intCast_natCast D;rw[this,Rat.mul_assoc,jw _ (a6L h0)];grind
 rw[e1];exact vT _ _ (by omega) hs (by unfold isz;simpa using hD)
theorem Cdn.mono {e:Mt} {R C K L:Nat} (H:Cdn e R C K) (h:K<=L):Cdn e R C L:=by obtain⟨D,h0,hD,hh⟩:=H;exact⟨D,h0,by omega,fun i h1 j h2=>by obtain⟨z,hz,hs⟩:=hh i h1 j h2;exact⟨z,hz,by omega⟩⟩
theorem Cdn.congr {e f:Mt} {R C K:Nat} (H:Cdn e R C K) (h:∀ i,i<R->∀ j,j<C->f i j=e i j):Cdn f R C K:=by obtain⟨D,h0,hD,hh⟩:=H;exact⟨D,h0,hD,fun i h1 j h2=>by rw[h i h1 j h2];exact hh i h1 j h2⟩
theorem Cdn.tr {e:Mt} {R C K:Nat} (H:Cdn e R C K):Cdn (tr e) C R K:=by obtain⟨D,h0,hD,hh⟩:=H;exact⟨D,h0,hD,fun i h1 j h2=>hh j h2 i h1⟩
theorem b7U {f:Nat->Rat} {D K:Nat}:∀ n,(∀ k,k<n->∃ z:Int,f k*(D:Nat)=(z:Int)/\isz z<=K)->∃ z:Int,sm n f*(D:Nat)=(z:Int)/\isz z<=K+n
 | 0,_=>⟨0,by show (0:Rat)*_=_;rw[Bd];rfl,by rw[KD];omega⟩
 | n+1,h=>by have ⟨z,h1,h2⟩:=b7U n (fun k hk=>h k (by omega));have ⟨y,h3,h4⟩:=h n (by omega);refine⟨z+y,?_,by have:=yP z y;omega⟩;show (sm n f+f n)*_=_;rw[Rat.intCast_add,<-h1,<-h3];grind
theorem BX (a b:Nat):((a*b:Nat):Rat)=(a:Rat)*(b:Rat):=Rat.natCast_mul a b
theorem Cdn.mm {a b:Mt} {R n C K L:Nat} (H:Cdn a R n K) (G:Cdn b n C L):Cdn (mm n a b) R C (K+L+n):=by obtain⟨D,h0,hD,hh⟩:=H;obtain⟨E,g0,gD,gg⟩:=G;refine⟨D*E,Nat.mul_pos h0 g0,by have:=ER D E;omega,fun i hi j hj=>b7U n fun k hk=>?_⟩;obtain⟨z,h1,h2⟩:=hh i hi k hk;obtain⟨y,h3,h4⟩:=gg k hk j hj;exact⟨z*y,by rw[uw,<-h1,<-h3,BX];grind,by have:=iC z y;omega⟩
theorem Cdn.idm (R C:Nat):Cdn idm R C 1:=by
 refine⟨1,by omega,BI (x:=(1:Int)) (k:=1) (by unfold BB;decide),fun i _ j _=>⟨if i=j then 1 else 0,?_,?_⟩⟩
 ·show (if i=j then (1:Rat) else 0)*((1:Nat):Rat)=((if i=j then (1:Int) else 0:Int):Rat);rw[show ((1:Nat):Rat)=1 from rfl,Rat.mul_one];by_cases h:i=j
  ·rw[dn h,dn h];rfl
  ·rw[bn h,bn h];rfl
 ·split
  ·exact BI (by unfold BB;decide)
  ·rw[KD];omega
theorem Cdn.bes {a b:Mt} {R n C K L:Nat} (H:Cdn a R n K) (G:Cdn b R C L):Cdn (kF n a b) R (n+C) (K+L):=by
 obtain⟨D,h0,hD,hh⟩:=H;obtain⟨E,g0,gD,gg⟩:=G;have a3:isz ((E:Nat):Int)<=L:=by unfold isz;simpa using gD
 have a4:isz ((D:Nat):Int)<=K:=by unfold isz;simpa using hD
 refine⟨D*E,Nat.mul_pos h0 g0,by have:=ER D E;omega,fun i hi j hj=>?_⟩;unfold kF;by_cases h:j<n
 ·obtain⟨z,h1,h2⟩:=hh i hi j h;refine⟨z*E,?_,by have:=iC z E;omega⟩;rw[dn h,uw,<-h1,BX,Rat.intCast_natCast];grind
 ·obtain⟨z,h1,h2⟩:=gg i hi (j-n) (by omega);refine⟨z*D,?_,by have:=iC z D;omega⟩;rw[bn h,uw,<-h1,BX,Rat.intCast_natCast];grind
theorem Cdn.step {e:Mt} {R C K r k j:Nat} (H:Cdn e R C K) (hr:r<R) (hk:k<R) (hj:j<C) (hz:e k j≠0):Cdn (mF e r k j) R C (2*K+1):=by
 obtain⟨D,h0,hD,hh⟩:=H;obtain⟨p,p1,p2⟩:=hh k hk j hj;have a4:isz ((D:Nat):Int)<=K:=by unfold isz;simpa using hD
 have hsw:∀ i,i<R->∀ c,c<C->∃ z:Int,fZ e r k i c*(D:Nat)=(z:Int)/\isz z<=K:=fun i hi c hc=>by
  unfold fZ;split
  ·exact hh k hk c hc
  ·split
   ·exact hh r hr c hc
   ·exact hh i hi c hc
 have hp:p≠0:=fun h=>by
  rw[h] at p1;have h3:e k j*(D:Nat)=0:=p1;have h2:=a6L h0;have:e k j*(D:Nat)*((D:Nat):Rat)⁻¹=e k j:=by rw[Rat.mul_assoc,jw _ h2];grind
  rw[h3] at this;exact hz (by rw[<-this];grind)
 have hpR:(p:Rat)≠0:=fun h=>hp (Dq.mp h);have hpa:((p.natAbs:Nat):Rat)=(p.sign:Rat)*p:=by rw[<-Rat.intCast_natCast,<-uw,show p.sign*p=(p.natAbs:Int) by rw[Int.sign_mul_self]]
 have hs:isz p.sign<=1:=by refine BI ?_;have:=Int.natAbs_sign_of_ne_zero hp;rw[this];unfold BB;decide
 have hsm:∀ y:Int,isz (p.sign*y)=isz y:=fun y=>by
  rcases Dl p 0 with h|h|h
  ·rw[ql h,Int.neg_one_mul,kR]
  ·exact absurd h hp
  ·rw[uo h,Int.one_mul]
 refine⟨D*p.natAbs,Nat.mul_pos h0 (Int.natAbs_pos.mpr hp),by have:=ER D p.natAbs;unfold isz at p2;omega,fun i hi c hc=>?_⟩;obtain⟨y,y1,y2⟩:=hh k hk c hc;have hdv:e k c / e k j*p=y:=by rw[<-p1,<-y1,Rat.div_def];have:=jw _ hz;grind
 unfold mF;by_cases h:i=r
 ·refine⟨p.sign*(y*D),?_,by rw[hsm];have:=iC y D;omega⟩;rw[dn h,BX,hpa,uw,uw,Rat.intCast_natCast,<-hdv];grind
 ·obtain⟨z,z1,z2⟩:=hsw i hi c hc;obtain⟨x,x1,x2⟩:=hsw i hi j hj;refine⟨p.sign*(z*p-x*y),?_,?_⟩
  ·rw[bn h,BX,hpa,uw,Rat.intCast_sub,uw,uw,<-z1,<-x1,<-hdv];grind
  ·rw[hsm];have b1:=a1f (z*p) (x*y);have b2:=iC z p;have b3:=iC x y;omega
theorem Cdn.red {e:Mt} {R C K:Nat} (H:Cdn e R C K):∀ n,n<=C->Cdn (red R e n).1 R C (2 ^ n*(K+1)-1)
 | 0,_=>H.mono (by omega)
 | n+1,hn=>by
  have ih:=Cdn.red H n (by omega);have E:=wL R e n;rw[b3l];have ⟨k1,k2⟩:=YD (Proofs.YtbkocjmmbkifjaaGreat.red R e n).1 n (R-(Proofs.YtbkocjmmbkifjaaGreat.red R e n).2.length) (Proofs.YtbkocjmmbkifjaaGreat.red R e n).2.length;have k4:=a2z (Proofs.YtbkocjmmbkifjaaGreat.red R e n).1 n (R-(Proofs.YtbkocjmmbkifjaaGreat.red R e n).2.length) (Proofs.YtbkocjmmbkifjaaGreat.red R e n).2.length;have hle:=E.le;split
  ·exact ih.mono (by have:=jl (K+1) (vg (show 0<2 by omega) (show n<=n+1 by omega));omega)
  ·rename_i h;refine(ih.step (r:=(Proofs.YtbkocjmmbkifjaaGreat.red R e n).2.length) (by omega) (by omega) (show n<C by omega) (k4 (by omega))).mono ?_;have h1:0<2 ^ n*(K+1):=Nat.mul_pos (Nat.pow_pos (by omega)) (by omega);rw[Nat.pow_succ,vw (2 ^ n) 2,Nat.mul_assoc];omega
def pd:Nat->(Nat->Nat)->Nat
 | 0,_=>1
 | n+1,f=>pd n f*f n
set_option maxRecDepth 100000
set_option maxHeartbeats 1000000
set_option linter.unusedVariables false
set_option linter.unusedSimpArgs false
theorem OA {f:Nat->Rat} {K:Nat}:∀ n,(∀ i,i<n->rsz (f i)<=K)->rsz (sm n f)<=n*(K+1)+1
 | 0,_=>by show rsz 0<=_;rw[show rsz 0=1 by decide +kernel];omega
 | n+1,h=>by have h1:=OA n (fun i hi=>h i (by omega));have h2:=h n (by omega);have h3:=oD (sm n f) (f n);show rsz (sm n f+f n)<=_;rw[Aa];omega
def nJ (x y:LQ') (k:Nat):Rat:=sm k fun i=>lv x i*lv y i
def a4o (x y:LQ'):Prop:=x.length=y.length/\x.length<=64/\∀ i,i<x.length->rsz (lv x i)<=1000000/\rsz (lv y i)<=1000000
theorem b0L {x y:LQ'} (h:a4o x y) {k:Nat} (hk:k<=x.length):rsz (nJ x y k)<=200000000:=by
 have h1:=OA (K:=2000000) (f:=fun i=>lv x i*lv y i) k (fun i hi=>by
  have ⟨a,b⟩:=h.2.2 i (by omega);have:=fC (lv x i) (lv y i);show rsz (lv x i*lv y i)<=_;omega)
 have h2:=h.2.1;have:k*(2000000+1)<=64*2000001:=uy (by omega) (by omega);show rsz (sm k _)<=_;omega
theorem uO {x:Rat}:sgn x.num=0↔x=0:=⟨fun h=>Bj.mp (wu.1 h),fun h=>by rw[h];rfl⟩
noncomputable def c5c:Ctr:=⟨[.list tQ,.list tQ],[tQ],fun x=>a4o x.1 x.2.1,fun x=>(nJ x.1 x.2.1 (show LQ' from x.1).length,())⟩
theorem b0K:aJ Tryz.prog 233 c5c:=by
 refine kL ((((nil0.ad oG).ad wB).ad rM).ad tY) [4,5,7] Tryz.func233 rfl (by decide) (fun x=>[.inv {k:Nat // k<=(show LQ' from x.1).length} (fun k=>[(11,.val tI (k.1:Int))]) (fun k=>[(4,.box [⟨tR,bP⟩]),(5,.box [⟨tQ,nJ x.1 x.2.1 k.1⟩])]) (fun k=>(show LQ' from x.1).length-k.1) ⟨0,by omega⟩ (fun _=>[])]) (fun x hp=>?_);obtain⟨x,y,u⟩:=x;change List Rat at x;change List Rat at y;refine aP ((aV 0/\True)/\(asT Int 0=0/\asT aI { ok:=false,x:=0,g:=aC Nat,h:=aC Nat }=bP/\aH 0=nJ x y 0/\True)/\∀ (i:{ k:Nat // k<=List.length x }),let A₁:=(aB (aA i)).toNat;let A₂:=(Rat.num (List.getD x A₁ 0));let A₀:=((sgn A₂ != 0)==true);let aK:=(A₀=true->A₀=true/\True);asT Bool true=true/\ifB (decide (aB (aA i)<aB x.length)) ((0<=aB (aA i)/\aB (aA i)<aB x.length/\True)/\(rsz (List.getD x A₁ 0)<=1000000000/\(A₀=true->A₀=true/\A₀=true/\0<=aB (aA i)/\aB (aA i)<aB y.length/\True)/\aK/\(A₀=true->A₀=true/\rsz (List.getD y A₁ 0)<=1000000000/\True)/\aK/\((sgn A₂ != 0)=true->A₀=true)/\True)/\ifB (bif sgn A₂ != 0 then sgn (Rat.num (List.getD y A₁ 0)) != 0 else false) ((0<=aB (aA i)/\aB (aA i)<aB y.length/\s44 (List.getD x A₁ 0) (List.getD y A₁ 0)/\s44 (nJ x y (aA i)) (List.getD x A₁ 0*List.getD y A₁ 0)/\True)/\∃ (i':{ k:Nat // k<=List.length x }),List.length x-aA i'<List.length x-aA i/\IntKind.wrap IntKind.i64 (aB (aA i)+1)=aB (aA i')/\asT aI bP=bP/\nJ x y (aA i)+List.getD x A₁ 0*List.getD y A₁ 0=nJ x y (aA i')/\True) (∃ (i':{ k:Nat // k<=List.length x }),List.length x-aA i'<List.length x-aA i/\IntKind.wrap IntKind.i64 (aB (aA i)+1)=aB (aA i')/\asT aI bP=bP/\nJ x y (aA i)=nJ x y (aA i')/\True)) (True/\nJ x y (aA i)=nJ x y x.length/\True)) (by kernel_rfl) ?_;have hp:a4o x y:=hp;have hZ:(⟨false,0,[],[]⟩:aI)=bP:=rfl;dsimp only[aB,asT,aA,aC] at *
 simp only[hZ,Int.toNat_natCast,gZ,jc,jv,Dt,Cb];have hs:=fun k (hk:k<=x.length)=>b0L hp hk;obtain⟨hl,h64,hr⟩:=hp;refine⟨by unfold aV;omega,rfl,fun i=>⟨fun h1=>?_,fun h1=>?_⟩⟩
 ·have hi:i.1<x.length:=by omega
  have a1:rsz (x.getD i.1 0)<=1000000:=(hr i.1 hi).1;have a2:rsz (y.getD i.1 0)<=1000000:=(hr i.1 hi).2;have a3:=hs i.1 i.2;have a4:=fC (x.getD i.1 0) (y.getD i.1 0);refine⟨⟨by omega,h1⟩,⟨by omega,fun h=>⟨h,h,by omega,by omega⟩,fun h=>h,fun h=>⟨h,by omega⟩,fun h=>h,fun h=>by rw[h];rfl⟩,fun h=>⟨⟨by omega,by omega,⟨by omega,by omega⟩,by omega,by omega⟩,⟨i.1+1,by omega⟩,by simp only;omega,by rw[aG (by omega) (by omega)];rfl,rfl⟩,fun h=>⟨⟨i.1+1,by omega⟩,by simp only;omega,by rw[aG (by omega) (by omega)];rfl,?_⟩⟩;have hz:x.getD i.1 0*y.getD i.1 0=0:=by
   by_cases hx:sgn (x.getD i.1 0).num=0
   ·have h9:x.getD i.1 0=0:=uO.mp hx;rw[h9];grind
   ·rw[show (sgn (x.getD i.1 0).num != 0)=true from Eu.mpr hx] at h;have h:(sgn (y.getD i.1 0).num != 0)=false:=h;have h9:y.getD i.1 0=0:=uO.mp (by simpa using h);rw[h9];grind
  show sm i.1 _=sm i.1 _+x.getD i.1 0*y.getD i.1 0;rw[hz];grind
 ·have:i.1=x.length:=by have:=i.2;omega
  rw[this]
abbrev TCo:List Ty:=[.ref tM]
def b6s (c:(nest TCo).den) (i j:Int):Prop:=0<=i/\i.toNat<(show MQ from c.1).length/\0<=j/\j.toNat<((show MQ from c.1).getD i.toNat []).length
def gCo (c:(nest TCo).den) (i j:Nat):Rat:=ent c.1 i j
theorem XP:aJ Tryz.prog 276 (WJ TCo b6s gCo):=by
 refine kL nil0 [5] Tryz.func276 rfl (by decide) (fun x=>[]) (fun x hp=>?_);obtain⟨i,j,c⟩:=x;change Int at i;change Int at j;obtain⟨a,u⟩:=c;change List (List Rat) at a;refine aP ((0<=i/\i<aB a.length/\0<=j/\j<aB (List.getD a i.toNat (aC Rat)).length/\True)/\True/\List.getD (List.getD a i.toNat (aC Rat)) j.toNat 0=ent a i.toNat j.toNat/\True) (by kernel_rfl) ?_;try dsimp only[aB,asT,aA,aC] at *
 have h1:0<=i/\i.toNat<a.length/\0<=j/\j.toNat<(a.getD i.toNat []).length:=hp;exact⟨⟨h1.1,by omega,h1.2.2.1,by omega,trivial⟩,trivial,rfl,trivial⟩
abbrev TTu:List Ty:=[.ref tM]
def b6z (c:(nest TTu).den) (i j:Int):Prop:=0<=i/\0<=j/\j.toNat<(show MQ from c.1).length/\i.toNat<((show MQ from c.1).getD j.toNat []).length
def gTu (c:(nest TTu).den) (i j:Nat):Rat:=ent c.1 j i
theorem XW:aJ Tryz.prog 273 (WJ TTu b6z gTu):=by
 refine kL nil0 [5] Tryz.func273 rfl (by decide) (fun x=>[]) (fun x hp=>?_);obtain⟨i,j,c⟩:=x;change Int at i;change Int at j;obtain⟨a,u⟩:=c;change List (List Rat) at a;refine aP ((0<=j/\j<aB a.length/\0<=i/\i<aB (List.getD a j.toNat (aC Rat)).length/\True)/\True/\List.getD (List.getD a j.toNat (aC Rat)) i.toNat 0=ent a j.toNat i.toNat/\True) (by kernel_rfl) ?_;try dsimp only[aB,asT,aA,aC] at *
 have h1:0<=i/\0<=j/\j.toNat<a.length/\i.toNat<(a.getD j.toNat []).length:=hp;exact⟨⟨h1.2.1,by omega,h1.1,by omega,trivial⟩,trivial,rfl,trivial⟩
abbrev TMu:List Ty:=[.ref tM,.ref tM]
def b6u (c:(nest TMu).den) (i j:Int):Prop:=0<=i/\i.toNat<(show MQ from c.1).length/\0<=j/\j.toNat<(show MQ from c.2.1).length/\a4o ((show MQ from c.1).getD i.toNat []) ((show MQ from c.2.1).getD j.toNat [])
def gMu (c:(nest TMu).den) (i j:Nat):Rat:=nJ ((show MQ from c.1).getD i []) ((show MQ from c.2.1).getD j []) ((show MQ from c.1).getD i []).length
theorem XR:aJ Tryz.prog 232 (WJ TMu b6u gMu):=by
 refine kL (nil0.ad b0K) [6] Tryz.func232 rfl (by decide) (fun x=>[]) (fun x hp=>?_);obtain⟨i,j,c⟩:=x;change Int at i;change Int at j;obtain⟨a,b,u⟩:=c;change List (List Rat) at a;change List (List Rat) at b;refine aP ((0<=i/\i<aB a.length/\0<=j/\j<aB b.length/\a4o (List.getD a i.toNat (aC Rat)) (List.getD b j.toNat (aC Rat))/\True)/\True/\nJ (List.getD a i.toNat (aC Rat)) (List.getD b j.toNat (aC Rat)) (List.getD a i.toNat (aC Rat)).length=gMu (a,b,u) i.toNat j.toNat/\True) (by kernel_rfl) ?_;try dsimp only[aB,asT,aA,aC] at *
 have h1:0<=i/\i.toNat<a.length/\0<=j/\j.toNat<b.length/\a4o (a.getD i.toNat []) (b.getD j.toNat []):=hp;exact⟨⟨h1.1,by omega,h1.2.2.1,by omega,h1.2.2.2.2,trivial⟩,trivial,rfl,trivial⟩
theorem jP:NOk Tryz.prog 184 (GH 276 TCo b6s gCo):=by refine qY (nil0.ad XP) ⟨[],[],[(11,tR)]⟩ Es rfl (by decide) (fun x=>rQ x.1 x.2.1 (gCo x.2.2.1)) (fun x hp=>?_);obtain⟨m,n,c,u⟩:=x;obtain⟨R,C,hR,hC,r2,c2,hP⟩:=hp;change m=(R:Int) at hR;change n=(C:Int) at hC;subst hR hC;refine aP (tC R C (gCo c) (b6s c) (fun y=>aY R C (gCo c)=y)) (by kernel_rfl) ?_;exact lC r2 c2 hP rfl
theorem jR:NOk Tryz.prog 184 (GH 273 TTu b6z gTu):=by refine qY (nil0.ad XW) ⟨[],[],[(11,tR)]⟩ Es rfl (by decide) (fun x=>rQ x.1 x.2.1 (gTu x.2.2.1)) (fun x hp=>?_);obtain⟨m,n,c,u⟩:=x;obtain⟨R,C,hR,hC,r2,c2,hP⟩:=hp;change m=(R:Int) at hR;change n=(C:Int) at hC;subst hR hC;refine aP (tC R C (gTu c) (b6z c) (fun y=>aY R C (gTu c)=y)) (by kernel_rfl) ?_;exact lC r2 c2 hP rfl
theorem jQ:NOk Tryz.prog 184 (GH 232 TMu b6u gMu):=by refine qY (nil0.ad XR) ⟨[],[],[(11,tR)]⟩ Es rfl (by decide) (fun x=>rQ x.1 x.2.1 (gMu x.2.2.1)) (fun x hp=>?_);obtain⟨m,n,c,u⟩:=x;obtain⟨R,C,hR,hC,r2,c2,hP⟩:=hp;change m=(R:Int) at hR;change n=(C:Int) at hC;subst hR hC;refine aP (tC R C (gMu c) (b6u c) (fun y=>aY R C (gMu c)=y)) (by kernel_rfl) ?_;exact lC r2 c2 hP rfl
theorem b4y (x:List Rat):fV (fun(x:Ty.den (Ty.lf Lf.rat))=>dH []) x:=iW.mpr fun _ _=>trivial
theorem rJ (a:MQ):fV (fun(x:Ty.den (Ty.list (Ty.lf Lf.rat)))=>dH [fV (fun(x:Ty.den (Ty.lf Lf.rat))=>dH []) x]) a:=iW.mpr fun r _=>⟨b4y r,trivial⟩
theorem ifF {b:Bool} {p q:Prop} (h:b=false) (hq:q):ifB b p q:=by subst h;exact hq
theorem ifT {b:Bool} {p q:Prop} (h:b=true) (hp:p):ifB b p q:=by subst h;exact hp
theorem a1p {x:Int} (h:x=0):(x != 0)=false:=by rw[h];rfl
theorem a5N {l:ML} (h:∀ a ∈ l,nI a=0):MC l=0:=by unfold MC;rw[show l.any (fun a=>nI a != 0)=false from List.any_eq_false.mpr fun a ha=>by rw[h a ha];decide];rfl
theorem okM.pos {a:MQ} (h:okM a):0<a.length:=by have:=h.1.2.2.1;omega
theorem okM.poz {a:MQ} (h:okM a):(0:Int)<(a.length:Int):=by have:=h.pos;omega
theorem okM.r64 {a:MQ} (h:okM a):a.length<=64:=h.1.2.2.2.1
theorem okM.c1 {a:MQ} (h:okM a):1<=wdM a:=h.1.2.2.2.2.1
theorem okM.c64 {a:MQ} (h:okM a):wdM a<=64:=h.1.2.2.2.2.2
theorem okM.row {a:MQ} (h:okM a) {i:Nat} (hi:i<a.length):(a.getD i []).length=wdM a:=h.1.row hi
noncomputable def b6c:lK:=.mk LKm [tM] (fun x=>okM x.1) (fun x=>aY (show MQ from x.1).length (wdM (show MQ from x.1)) (ent x.1))
theorem b0z:NOk Tryz.prog 244 b6c:=by refine qY ((((nil0.ad XP).an jP).an jR).an jQ) ⟨[],[],[]⟩ Tryz.func244 rfl (by decide) (fun x=>[]) (fun x hp=>?_);obtain⟨a,u⟩:=x;change List (List Rat) at a;refine aP ((asT Int 0<=0/\0<aB a.length/\BO TCo b6s (aB a.length,aB (List.getD a 0 (aC Rat)).length,(a,()),())/\True)/\aY a.length (wdM a) (ent a)=aY (aB a.length).toNat (aB (List.getD a 0 (aC Rat)).length).toNat (gCo (a,()))) (by kernel_rfl) ?_;have ha:okM a:=hp;exact⟨⟨Aw 0,ha.poz,⟨a.length,wdM a,rfl,rfl,by have:=ha.r64;omega,by have:=ha.c64;omega,fun i j hi hj=>⟨oh i,hi,oh j,by show j<(a.getD i []).length;rw[ha.row hi];exact hj⟩⟩,trivial⟩,rfl⟩
noncomputable def b4G:Ctr:=⟨[tM],[tM],fun x=>okM x.1,fun x=>(tab (wdM (show MQ from x.1)) (show MQ from x.1).length (tr (ent x.1)),())⟩
theorem VZ:aJ Tryz.prog 231 b4G:=by refine aN ((((nil0.ad XW).an jP).an jR).an jQ) ⟨[],[],[]⟩ Tryz.func231 rfl (by decide) (fun x=>[]) (fun x hp=>?_);obtain⟨a,u⟩:=x;change List (List Rat) at a;refine aP ((asT Int 0<=0/\0<aB a.length/\BO TTu b6z (aB (List.getD a 0 (aC Rat)).length,aB a.length,(a,()),())/\True)/\(fV (fun(x:Ty.den (Ty.list (Ty.lf Lf.fO)))=>dH (fV (fun(x:Ty.den (Ty.lf Lf.fO))=>dH ((aI.ok x=true)::aC Cd)) x::aC Cd)) (aY (aB (List.getD a 0 (aC Rat)).length).toNat (aB a.length).toNat (gTu (a,())))/\True)/\List.map (fun(xs:Ty.den (Ty.list (Ty.lf Lf.fO)))=>List.map (fun(x:Ty.den (Ty.lf Lf.fO))=>aI.x x) xs) (aY (aB (List.getD a 0 (aC Rat)).length).toNat (aB a.length).toNat (gTu (a,())))=tab (wdM a) a.length (tr (ent a))/\True) (by kernel_rfl) ?_;have ha:okM a:=hp;exact⟨⟨Aw 0,ha.poz,⟨wdM a,a.length,rfl,rfl,by have:=ha.c64;omega,by have:=ha.r64;omega,fun i j hi hj=>⟨oh i,oh j,hj,by show i<(a.getD j []).length;rw[ha.row hj];exact hi⟩⟩,trivial⟩,⟨wO _ _ _,trivial⟩,DF _ _ _,trivial⟩
def sqC (a:MQ):Int:=if a.length=wdM a then 0 else 4
noncomputable def b4E:Ctr:=⟨[tM],[tI],fun x=>okM x.1,fun x=>(sqC x.1,())⟩
theorem VN:aJ Tryz.prog 234 b4E:=by
 refine aN (nil0.ad qX) ⟨[],[],[]⟩ Tryz.func234 rfl (by decide) (fun x=>[]) (fun x hp=>?_);obtain⟨a,u⟩:=x;change List (List Rat) at a;refine aP (let A₀:=(List.map (fun(xs:Ty.den (Ty.list (Ty.lf Lf.rat)))=>List.map (fun(x:Ty.den (Ty.lf Lf.rat))=>dK x) xs) a);(fV (fun(x:Ty.den (Ty.list (Ty.lf Lf.rat)))=>dH (fV (fun(x:Ty.den (Ty.lf Lf.rat))=>dH (aC Cd)) x::aC Cd)) a/\rH A₀/\True)/\ifB (nI A₀ != 0) (True/\nI A₀=sqC a/\True) ((asT Int 0<=0/\0<aB a.length/\True)/\ifB (aB a.length != aB (List.getD a 0 (aC Rat)).length) (True/\4=sqC a/\True) (True/\0=sqC a/\True))) (by kernel_rfl) ?_;have ha:okM a:=hp;dsimp only[aB,asT,aA,aC] at *
 refine⟨⟨rJ a,ha.short,trivial⟩,ifF (a1p ha.chk) ⟨⟨Aw 0,ha.poz,trivial⟩,?_⟩⟩;by_cases h:a.length=wdM a
 ·exact ifF (by rw[a6u,jo.mpr h];rfl) ⟨trivial,(dn h).symm,trivial⟩
 ·exact ifT (by rw[a6u,Af.mpr h];rfl) ⟨trivial,(bn h).symm,trivial⟩
noncomputable def b4F:Ctr:=⟨[tM],[tM,tI],fun x=>okM x.1,fun x=>(tab (wdM (show MQ from x.1)) (show MQ from x.1).length (tr (ent x.1)),(0:Int),())⟩
theorem VW:aJ Tryz.prog 153 b4F:=by refine aN ((nil0.ad qX).ad VZ) ⟨[],[],[]⟩ Tryz.func153 rfl (by decide) (fun x=>[]) (fun x hp=>?_);obtain⟨a,u⟩:=x;change List (List Rat) at a;refine aP (let A₀:=(List.map (fun(xs:Ty.den (Ty.list (Ty.lf Lf.rat)))=>List.map (fun(x:Ty.den (Ty.lf Lf.rat))=>dK x) xs) a);(fV (fun(x:Ty.den (Ty.list (Ty.lf Lf.rat)))=>dH (fV (fun(x:Ty.den (Ty.lf Lf.rat))=>dH (aC Cd)) x::aC Cd)) a/\rH A₀/\True)/\ifB (nI A₀ != 0) (True/\aC (List Rat)=tab (wdM a) a.length (tr (ent a))/\True/\nI A₀=0/\True) ((okM a/\True)/\True/\tab (wdM a) a.length (tr (ent a))=tab (wdM a) a.length (tr (ent a))/\True/\asT Int 0=0/\True)) (by kernel_rfl) ?_;have ha:okM a:=hp;exact⟨⟨rJ a,ha.short,trivial⟩,ifF (a1p ha.chk) ⟨⟨ha,trivial⟩,trivial,rfl,trivial,rfl,trivial⟩⟩
noncomputable def cMul:Ctr:=⟨[tM,tM],[tM,tI],fun x=>okM x.1/\okM x.2.1/\wdM (show MQ from x.1)=(show MQ from x.2.1).length/\szM x.1 1000000/\szM x.2.1 1000000,fun x=>(tab (show MQ from x.1).length (wdM (show MQ from x.2.1)) (mm (show MQ from x.2.1).length (ent x.1) (ent x.2.1)),(0:Int),())⟩
theorem a6J:aJ Tryz.prog 152 cMul:=by
 refine aN ((((((nil0.ad OZ).ad XR).an jP).an jR).an jQ).ad VZ) ⟨[7],[],[]⟩ Tryz.func152 rfl (by decide) (fun x=>[]) (fun x hp=>?_);obtain⟨a,b,u⟩:=x;change List (List Rat) at a;change List (List Rat) at b;refine aP (let aK:=(a::b::aC (List (List Rat)));let aO:=(mm b.length (ent a) (ent b));let bC:=(a,tab (wdM b) b.length (tr (ent b)),());let bI:=(Ty.list (Ty.lf Lf.rat));let A₀:=(fun(xs:Ty.den (Ty.list bI))=>List.map (fun(xs:Ty.den bI)=>List.map (fun(x:Ty.den (Ty.lf Lf.rat))=>dK x) xs) xs);let A₂:=(fun(x:Ty.den bI)=>dH (fV (fun(x:Ty.den (Ty.lf Lf.rat))=>dH (aC Cd)) x::aC Cd));let bH:=(List.getD b 0 (aC Rat)).length;let A₁:=(aY (aB a.length).toNat (aB bH).toNat (gMu bC));(((fV A₂ a/\True)/\(fV A₂ b/\True)/\True)/\(List.length (List.map A₀ aK)<=1000000/\∀ (a_1:List (List aI)),a_1 ∈ List.map A₀ aK->rH a_1)/\True)/\ifB (MC (List.map A₀ aK) != 0) (True/\aC (List Rat)=tab a.length (wdM b) aO/\True/\MC (List.map A₀ aK)=0/\True) ((asT Int 0<=0/\0<aB a.length/\True)/\ifB (aB (List.getD a 0 (aC Rat)).length != aB b.length) (True/\aC (List Rat)=tab a.length (wdM b) aO/\True/\asT Int 4=0/\True) ((okM b/\True)/\(asT Int 0<=0/\0<aB b.length/\BO TMu b6u (aB a.length,aB bH,bC,())/\True)/\(fV (fun(x:Ty.den (Ty.list (Ty.lf Lf.fO)))=>dH (fV (fun(x:Ty.den (Ty.lf Lf.fO))=>dH ((aI.ok x=true)::aC Cd)) x::aC Cd)) A₁/\True)/\List.map (fun(xs:Ty.den (Ty.list (Ty.lf Lf.fO)))=>List.map (fun(x:Ty.den (Ty.lf Lf.fO))=>aI.x x) xs) A₁=tab a.length (wdM b) aO/\True/\asT Int 0=0/\True))) (by kernel_rfl) ?_;have hp:okM a/\okM b/\wdM a=b.length/\szM a 1000000/\szM b 1000000:=hp;obtain⟨ha,hb,hw,sa,sb⟩:=hp;have hk:MC [liftM a,liftM b]=0:=a5N fun m hm=>by
  rcases jh.mp hm with rfl|hm
  ·exact ha.chk
  ·rw[mg.mp hm];exact hb.chk
 have hs:∀ m ∈ [liftM a,liftM b],rH m:=fun m hm=>by
  rcases jh.mp hm with rfl|hm
  ·exact ha.short
  ·rw[mg.mp hm];exact hb.short
 have hrow:∀ j,j<wdM b->(tab (wdM b) b.length (tr (ent b))).getD j []=(List.range b.length).map (fun k=>ent b k j):=fun j hj=>LJ hj;have hd:∀ i,i<a.length->∀ j,j<wdM b->a4o (a.getD i []) ((tab (wdM b) b.length (tr (ent b))).getD j []):=fun i hi j hj=>by rw[hrow j hj];have hl:=ha.row hi;refine⟨by rw[hl,hw];simp,by rw[hl];exact ha.c64,fun k hk=>?_⟩;rw[hl] at hk;refine⟨sa i hi k hk,?_⟩;show rsz (((List.range b.length).map (fun k=>ent b k j)).getD k 0)<=_;rw[iL (by omega)];exact sb k (by omega) j hj
 refine⟨⟨⟨⟨rJ a,trivial⟩,⟨rJ b,trivial⟩,trivial⟩,⟨by show 2<=1000000;omega,hs⟩,trivial⟩,ifF (a1p hk) ⟨⟨Aw 0,ha.poz,trivial⟩,ifF (by dsimp only[aB];rw[a6u,jo.mpr hw];rfl) ⟨⟨hb,trivial⟩,⟨Aw 0,hb.poz,⟨a.length,wdM b,rfl,rfl,by have:=ha.r64;omega,by have:=hb.c64;omega,fun i j hi hj=>⟨oh i,hi,oh j,by show j<(tab _ _ _).length;rw[jG];exact hj,hd i hi j hj⟩⟩,trivial⟩,⟨wO _ _ _,trivial⟩,(DF _ _ _).trans (uS fun i hi j hj=>?_),trivial,rfl,trivial⟩⟩⟩;have hj:j<wdM b:=hj;have hi:i<a.length:=hi;show sm (a.getD i []).length (fun k=>lv (a.getD i []) k*lv ((tab (wdM b) b.length (tr (ent b))).getD j []) k)=sm b.length (fun k=>ent a i k*ent b k j);rw[ha.row hi,hw,hrow j hj];refine gV _ fun k hk=>?_;show ent a i k*((List.range b.length).map (fun k=>ent b k j)).getD k 0=_;rw[iL hk]
noncomputable def c5q:Ctr:=⟨[tQ,tQ],[tQ],fun x=>rsz x.1<=400000000/\rsz x.2.1<=400000000/\(show Rat from x.2.1)≠0,fun x=>((show Rat from x.1) / (show Rat from x.2.1),())⟩
theorem a3x:aJ Tryz.prog 246 c5q:=by refine aN (nil0.ad QJ) ⟨[4,5],[],[]⟩ Tryz.func246 rfl (by decide) (fun x=>[]) (fun x hp=>?_);obtain⟨a,b,u⟩:=x;change Rat at a;change Rat at b;refine aP (((rsz a<=400000000/\rsz b<=400000000)/\True)/\(aI.ok (WS 14 a b).1=true/\True)/\aI.x (WS 14 a b).1=a / b/\True) (by kernel_rfl) ?_;have hp:rsz a<=400000000/\rsz b<=400000000/\b≠0:=hp;have e:WS 14 a b=(dK (a / b),(0:Int),()):=bn hp.2.2;rw[e];exact⟨⟨⟨hp.1,hp.2.1⟩,trivial⟩,⟨rfl,trivial⟩,rfl,trivial⟩
def pK (x:LR) (o:LQ') (k:Rat) (s t:Nat):LR:=(List.range x.length).map fun c=>if s<=c/\c<t then dK ((x.getD c bP).x-k*lv o c) else x.getD c bP
theorem b3V (x:LR) (o:LQ') (k:Rat) (s t:Nat):(pK x o k s t).length=x.length:=by simp[pK]
theorem b7u {x:LR} {o:LQ'} {k:Rat} {s t c:Nat} (h:c<x.length):(pK x o k s t).getD c bP=if s<=c/\c<t then dK ((x.getD c bP).x-k*lv o c) else x.getD c bP:=iL h
theorem c0L (x:LR):(List.range x.length).map (fun c=>x.getD c bP)=x:=by
 apply List.ext_getElem
 ·simp
 ·intro i h1 h2;simp[bg,h2]
theorem a9u (x:LR) (o:LQ') (k:Rat) (s:Nat):pK x o k s s=x:=by unfold pK;rw[show (fun c=>if s<=c/\c<s then dK ((x.getD c bP).x-k*lv o c) else x.getD c bP)=(fun c=>x.getD c bP) from funext fun c=>bn (by omega)];exact c0L x
theorem b3W {x:LR} {o:LQ'} {k:Rat} {s t:Nat} (h:s<=t):(pK x o k s t).set t (dK ((x.getD t bP).x-k*lv o t))=pK x o k s (t+1):=by
 unfold pK;rw[map_set];refine og fun c _=>?_;by_cases e:c=t
 ·subst e;rw[dn rfl,dn ⟨h,by omega⟩]
 ·rw[bn e];by_cases h2:s<=c/\c<t
  ·rw[dn h2,dn ⟨h2.1,by omega⟩]
  ·rw[bn h2,bn (by omega)]
theorem a9t {x:LR} {o:LQ'} {k:Rat} {s t:Nat} (hx:∀ q ∈ x,q=dK q.x) (h:lv o t=0):pK x o k s (t+1)=pK x o k s t:=by
 unfold pK;refine og fun c hc=>?_;by_cases h2:s<=c/\c<t
 ·rw[dn h2,dn ⟨h2.1,by omega⟩]
 ·rw[bn h2];split
  ·have e:c=t:=by omega
   subst e;have h3:x.getD c bP=dK (x.getD c bP).x:=cO hx (oq.mp hc);rw[h,show (x.getD c bP).x-k*0=(x.getD c bP).x by grind,<-h3]
  ·rfl
theorem b3U {x:LR} {o:LQ'} {k:Rat} {s t:Nat} (h:x.length<=t):pK x o k s t=pK x o k s x.length:=by
 unfold pK;refine og fun c hc=>?_;have:=oq.mp hc;by_cases h2:s<=c
 ·rw[dn ⟨h2,by omega⟩,dn ⟨h2,by omega⟩]
 ·rw[bn (by omega),bn (by omega)]
noncomputable def c8X:lK:=.chg (.row 47 tR) [.list tQ,tQ,tI] [] (fun x y=>(∀ q ∈ (show LR from x),q=dK q.x)/\(show LR from x).length=(show LQ' from y.1).length/\(show LR from x).length<=1000/\0<=(show Int from y.2.2.1)/\(∀ q ∈ (show LR from x),rsz q.x<=400000000)/\rsz y.2.1<=100000000/\∀ q ∈ (show LQ' from y.1),rsz q<=100000000) (fun x y=>pK x y.1 y.2.1 (show Int from y.2.2.1).toNat (show LR from x).length) (fun _ _=>())
theorem b8P:NOk Tryz.prog 245 c8X:=by
 refine a6M (((nil0.ad rM).ad JR).ad tY) ⟨[],[],[]⟩ Tryz.func245 rfl (by decide) (fun x y=>[.inv {k:Nat // (show Int from y.2.2.1).toNat<=k} (fun k=>[(8,.val tI (k.1:Int))]) (fun k=>[(0,.row 47 tR (pK x y.1 y.2.1 (show Int from y.2.2.1).toNat k.1) 0)]) (fun k=>(show LR from x).length-k.1) ⟨(show Int from y.2.2.1).toNat,aj _⟩ (fun _=>[])]) (fun x y hp=>?_);obtain⟨o,k,s,u⟩:=y;change List aI at x;change List Rat at o;change Rat at k;change Int at s;refine aP ((s=aB s.toNat/\x=pK x o k s.toNat s.toNat/\True)/\∀ (i:{ k:Nat // Int.toNat s<=k }),let A₀:=(pK x o k s.toNat (aA i));let A₁:=(aB (aA i)).toNat;let A₂:=(List.getD A₀ A₁ { ok:=false,x:=0,g:=aC Nat,h:=aC Nat });asT Bool true=true/\ifB (decide (aB (aA i)<aB A₀.length)) ((0<=aB (aA i)/\aB (aA i)<aB o.length/\rsz (List.getD o A₁ 0)<=1000000000/\True)/\ifB (sgn (Rat.num (List.getD o A₁ 0)) != 0) ((0<=aB (aA i)/\aB (aA i)<aB A₀.length/\Int.toNat (aB (aA i))<List.length A₀/\0<=aB (aA i)/\aB (aA i)<aB o.length/\s44 k (List.getD o A₁ 0)/\aI.ok A₂=true/\s44 (aI.x A₂) (k*List.getD o A₁ 0)/\0<=aB (aA i)/\aB (aA i)<aB A₀.length/\Int.toNat (aB (aA i))<List.length A₀/\True)/\∃ (i':{ k:Nat // Int.toNat s<=k }),List.length x-aA i'<List.length x-aA i/\IntKind.wrap IntKind.i64 (aB (aA i)+1)=aB (aA i')/\List.set A₀ A₁ (dK (aI.x A₂-k*List.getD o A₁ 0))=pK x o k s.toNat (aA i')/\True) (∃ (i':{ k:Nat // Int.toNat s<=k }),List.length x-aA i'<List.length x-aA i/\IntKind.wrap IntKind.i64 (aB (aA i)+1)=aB (aA i')/\pK x o k s.toNat (aA i)=pK x o k s.toNat (aA i')/\True)) (pK x o k s.toNat x.length=pK x o k s.toNat (aA i))) (by kernel_rfl) ?_;have hp:(∀ q ∈ x,q=dK q.x)/\x.length=o.length/\x.length<=1000/\0<=s/\(∀ q ∈ x,rsz q.x<=400000000)/\rsz k<=100000000/\∀ q ∈ o,rsz q<=100000000:=hp;obtain⟨hq,hl,hm,hs,zx,zk,zo⟩:=hp;have hZ:(⟨false,0,[],[]⟩:aI)=bP:=rfl;dsimp only[aB,asT,aA,aC] at *
 simp only[hZ,Int.toNat_natCast,gZ,jc,jv,Dt,Cb,b3V];refine⟨⟨by omega,(a9u _ _ _ _).symm⟩,fun i=>⟨fun h1=>?_,fun h1=>?_⟩⟩
 ·have hi:i.1<x.length:=by omega
  have z1:rsz (o.getD i.1 0)<=100000000:=cO zo (by omega);have z2:rsz (x.getD i.1 bP).x<=400000000:=cO (p:=fun q:aI=>rsz q.x<=400000000) zx hi;have z3:=fC k (o.getD i.1 0);have e1:(pK x o k s.toNat i.1).getD i.1 bP=x.getD i.1 bP:=by rw[b7u hi,bn (by omega)]
  have e2:x.getD i.1 bP=dK (x.getD i.1 bP).x:=cO hq hi;rw[e1];refine⟨⟨by omega,by omega,by omega⟩,fun h2=>⟨⟨by omega,by omega,hi,by omega,by omega,⟨by omega,by omega⟩,by rw[e2];rfl,⟨by omega,by omega⟩,by omega,by omega,hi⟩,⟨i.1+1,by have:=i.2;omega⟩,by simp only;omega,by rw[aG (by omega) (by omega)];rfl,b3W i.2⟩,fun h2=>⟨⟨i.1+1,by have:=i.2;omega⟩,by simp only;omega,by rw[aG (by omega) (by omega)];rfl,?_⟩⟩;have h9:lv o i.1=0:=uO.mp (by simpa using h2);exact(a9t hq h9).symm
 ·exact(b3U (by omega)).symm
def scl (m:Mt) (r j c:Nat) (v:Rat):Mt:=fun i d=>if i=r/\j<=d/\d<c then v*m i d else m i d
def elm (m:Mt) (r j t:Nat):Mt:=fun i d=>if i≠r/\i<t/\j<=d then m i d-m i j*m r d else m i d
theorem b3E (m:Mt) (r j:Nat) (v:Rat):scl m r j j v=m:=by funext i d;unfold scl;rw[bn (by omega)]
theorem b3D (m:Mt) {r j c:Nat} (h:j<=c) (v:Rat):scl m r j (c+1) v=fun i d=>if i=r then (fun e=>if e=c then v*m r c else scl m r j c v r e) d else scl m r j c v i d:=by
 funext i d;unfold scl;by_cases h1:i=r
 ·subst h1;simp only[Du,Dt];by_cases h2:d=c
  ·subst h2;rw[dn ⟨h,by omega⟩,dn rfl]
  ·rw[bn h2];by_cases h3:j<=d/\d<c
   ·rw[dn h3,dn ⟨h3.1,by omega⟩]
   ·rw[bn h3,bn (by omega)]
 ·simp only[bn h1];rw[bn (by simp[h1]),bn (by simp[h1])]
theorem c4a (m:Mt) {r j c:Nat} (v:Rat) {d:Nat} (h:c<=d) (i:Nat):scl m r j c v i d=m i d:=by unfold scl;rw[bn (by omega)]
theorem b0Q (m:Mt) (r j:Nat):elm m r j 0=m:=by funext i d;unfold elm;rw[bn (by omega)]
theorem a2r (m:Mt) (r j t d:Nat):elm m r j t r d=m r d:=by unfold elm;rw[bn (by simp)]
theorem b9s (m:Mt) {r j t i:Nat} (h:t<=i) (d:Nat):elm m r j t i d=m i d:=by unfold elm;rw[bn (by omega)]
theorem b0P (m:Mt) {r j t:Nat} (h:t≠r):elm m r j (t+1)=fun i d=>if i=t then (fun e=>if j<=e then m t e-m t j*m r e else m t e) d else elm m r j t i d:=by
 funext i d;unfold elm;by_cases h1:i=t
 ·subst h1;simp only[Du];by_cases h2:j<=d
  ·rw[dn ⟨h,by omega,h2⟩,dn h2]
  ·rw[bn (by omega),bn h2]
 ·simp only[bn h1];by_cases h2:i≠r/\i<t/\j<=d
  ·rw[dn h2,dn ⟨h2.1,by omega,h2.2.2⟩]
  ·rw[bn h2,bn (by omega)]
theorem b0O (m:Mt) {r j t:Nat} (h:t=r\/m t j=0):elm m r j (t+1)=elm m r j t:=by
 funext i d;unfold elm;by_cases h1:i=t
 ·subst h1;rw[bn (c:=i≠r/\i<i/\j<=d) (by omega)];rcases h with h|h
  ·rw[bn (by simp[h])]
  ·split
   ·rw[h];grind
   ·rfl
 ·by_cases h2:i≠r/\i<t/\j<=d
  ·rw[dn h2,dn ⟨h2.1,by omega,h2.2.2⟩]
  ·rw[bn h2,bn (by omega)]
theorem b7s {m:Mt} {R C r k j:Nat} (hz:m k j≠0) (hr:r<=k) (hk:k<R) (h0:∀ i,r<=i->i<R->∀ d,d<j->m i d=0) :
  ∀ i,i<R->∀ d,d<C->elm (scl (fZ m r k) r j C (1 / m k j)) r j R i d=mF m r k j i d:=by
 intro i hi d hd;have hs:∀ e,fZ m r k r e=m k e:=fun e=>by unfold fZ;rw[dn rfl]
 have hv:m k j*(m k j)⁻¹=1:=jw _ hz;have hrow:∀ e,e<C->scl (fZ m r k) r j C (1 / m k j) r e=m k e / m k j:=fun e he=>by
  unfold scl;by_cases h:j<=e
  ·rw[dn ⟨rfl,h,he⟩,hs,Rat.div_def,Rat.div_def];grind
  ·rw[bn (by omega),hs,h0 k hr hk e (by omega),Rat.div_def];grind
 by_cases e1:i=r
 ·subst e1;rw[a2r,hrow d hd];unfold mF;rw[dn rfl]
 ·have hoth:∀ e,scl (fZ m r k) r j C (1 / m k j) i e=fZ m r k i e:=fun e=>by unfold scl;rw[bn (by simp[e1])]
  unfold mF;rw[bn e1];unfold elm;by_cases h:j<=d
  ·rw[dn ⟨e1,hi,h⟩,hoth,hoth,hrow d hd]
  ·rw[bn (by omega),hoth,h0 k hr hk d (by omega),Rat.div_def];grind
def UY (R C:Nat) (e:Mt) (n:Nat):Prop:=∀ t,t<=n->∀ i,i<R->∀ c,c<C->rsz ((red R e t).1 i c)<=10000000
theorem b6w {R C n K:Nat} {e:Mt} (H:Cdn e R C K) (hn:n<=C) (hK:2 ^ n*(K+1)<=10000000):UY R C e n:=fun t ht i hi c hc=>by have h1:=(H.red t (by omega)).rsz hi hc;have h2:2 ^ t*(K+1)<=2 ^ n*(K+1):=uy (vg (by omega) ht) (aj _);omega
theorem b3k {R:Nat} {e:Mt} {n k:Nat} (hk:fk (red R e n).1 n (red R e n).2.length (R-(red R e n).2.length)=k) (hkR:k≠R):red R e (n+1)=(mF (red R e n).1 (red R e n).2.length k n,(red R e n).2++[n]):=by subst hk;exact bn hkR
theorem b3j {R:Nat} {e:Mt} {n:Nat} (hk:fk (red R e n).1 n (red R e n).2.length (R-(red R e n).2.length)=R):red R e (n+1)=red R e n:=dn hk
def mulM (a b:MQ):MQ:=tab a.length (wdM b) (mm b.length (ent a) (ent b))
def trM (a:MQ):MQ:=tab (wdM a) a.length (tr (ent a))
def RZ (a b:MQ):MQ:=tab a.length (wdM a) (ma (ent a) (ent b))
def VO (a b:MQ):MQ:=tab a.length (wdM a) (ms (ent a) (ent b))
def idM (n:Nat):MQ:=tab n n idm
def QC (a:MQ):Mt × List Nat:=red a.length (kF a.length (ent a) idm) a.length
def WX (a:MQ):Bool:=decide ((QC a).2.length=a.length)
def wZ (a:MQ):MQ:=tab a.length a.length fun i j=>(QC a).1 i (a.length+j)
def mvL (a:MQ) (x:List Rat):List Rat:=(List.range a.length).map (mv (wdM a) (ent a) (lv x))
instance c9p (N:Nat) (p:Nat->Prop) [DecidablePred p]:Decidable (∀ i,i<N->p i):=Nat.decidableBallLT N (fun i _=>p i)
def CdM (a:MQ) (K:Nat):Prop:=Cdn (ent a) a.length (wdM a) K
theorem isM.len {a:MQ} {R C:Nat} (h:isM a R C):a.length=R:=h.1
theorem isM.self {a:MQ} {R C:Nat} (h:isM a R C):isM a a.length (wdM a):=by rw[h.len,h.wd];exact h
theorem c4j {R C:Nat} {f:Nat->Nat->Rat} (h:1<=R):wdM (tab R C f)=C:=by show ((tab R C f).getD 0 []).length=C;rw[LJ (by omega)];simp
theorem IK {R C K:Nat} {f:Mt} (h:1<=R) (H:Cdn f R C K):CdM (tab R C f) K:=by unfold CdM;rw[jG,c4j h];exact H.congr fun i hi j hj=>eF hi hj
theorem CdM.sz {a:MQ} {K L:Nat} (H:CdM a K) (h:K<=L):szM a L:=fun i hi j hj=>au (Cdn.rsz H hi hj) h
theorem CdM.ok {a:MQ} {R C K:Nat} (H:CdM a K) (h:isM a R C) (hK:K<=100000000):okM a:=⟨h.self,H.sz hK⟩
theorem isM.mul {a b:MQ} {R C D n:Nat} (h:isM a R C) (g:isM b n D):isM (mulM a b) R D:=by unfold mulM;rw[h.len,g.wd];exact uF h.2.2.1 h.2.2.2.1 g.2.2.2.2.1 g.2.2.2.2.2
theorem isM.trp {a:MQ} {R C:Nat} (h:isM a R C):isM (trM a) C R:=by unfold trM;rw[h.len,h.wd];exact uF h.2.2.2.2.1 h.2.2.2.2.2 h.2.2.1 h.2.2.2.1
theorem isM.add {a b:MQ} {R C:Nat} (h:isM a R C):isM (RZ a b) R C:=by unfold RZ;rw[h.len,h.wd];exact uF h.2.2.1 h.2.2.2.1 h.2.2.2.2.1 h.2.2.2.2.2
theorem isM.sub {a b:MQ} {R C:Nat} (h:isM a R C):isM (VO a b) R C:=by unfold VO;rw[h.len,h.wd];exact uF h.2.2.1 h.2.2.2.1 h.2.2.2.2.1 h.2.2.2.2.2
theorem c0c {n:Nat} (h:1<=n) (h2:n<=64):isM (idM n) n n:=uF h h2 h h2
theorem isM.inv {a:MQ} {n C:Nat} (h:isM a n C):isM (wZ a) n n:=by unfold wZ;rw[h.len];exact uF h.2.2.1 h.2.2.2.1 h.2.2.1 h.2.2.2.1
theorem CdM.mul {a b:MQ} {R n C K L:Nat} (H:CdM a K) (G:CdM b L) (h:isM a R n) (g:isM b n C):CdM (mulM a b) (K+L+n):=by
 unfold mulM;rw[h.len,g.len,g.wd];refine IK h.2.2.1 (Cdn.mm ?_ ?_)
 ·have:=H;unfold CdM at this;rwa [h.len,h.wd] at this
 ·have:=G;unfold CdM at this;rwa [g.len,g.wd] at this
theorem CdM.trp {a:MQ} {R C K:Nat} (H:CdM a K) (h:isM a R C):CdM (trM a) K:=by unfold trM;rw[h.len,h.wd];refine IK h.2.2.2.2.1 (Cdn.tr ?_);have:=H;unfold CdM at this;rwa [h.len,h.wd] at this
theorem b9a {n:Nat} (h:1<=n):CdM (idM n) 1:=IK h (Cdn.idm n n)
theorem CdM.QC {a:MQ} {n K:Nat} (H:CdM a K) (h:isM a n n):Cdn (kF n (ent a) idm) n (n+n) (K+1):=by have:=H;unfold CdM at this;rw[h.len,h.wd] at this;exact Cdn.bes this (Cdn.idm n n)
theorem CdM.inv {a:MQ} {n K:Nat} (H:CdM a K) (h:isM a n n):CdM (wZ a) (2 ^ n*(K+2)-1):=by unfold wZ Proofs.YtbkocjmmbkifjaaGreat.QC;rw[h.len];refine IK h.2.2.1 ?_;have H2:=Cdn.red (H.QC h) n (by omega);obtain⟨D,d1,d2,d3⟩:=H2;exact⟨D,d1,d2,fun i hi j hj=>d3 i hi (n+j) (by omega)⟩
theorem b4g {R C:Nat} {f:Nat->Nat->Rat} {i j:Nat} (v:Rat) (hi:i<R):(tab R C f).set i (((tab R C f).getD i []).set j v)=tab R C (fun a b=>if a=i/\b=j then v else f a b):=by
 rw[LJ hi,map_set];unfold tab;rw[map_set];refine og fun k _=>?_;by_cases e:k=i
 ·subst e;rw[dn rfl];refine og fun d _=>?_;show _=if k=k/\d=j then v else f k d
  by_cases e2:d=j
  ·rw[dn e2,dn ⟨rfl,e2⟩]
  ·rw[bn e2,bn (fun h=>e2 h.2)]
 ·rw[bn e];refine og fun d _=>?_;show _=if k=i/\d=j then v else f k d
  rw[bn (fun h=>e h.1)]
def iH (l:List Nat):List Int:=l.map fun p:Nat=>(p:Int)
theorem UA (l:List Nat):(iH l).length=l.length:=by simp[iH]
theorem a1K (R r k:Nat):((List.range R).set r k).set k r=(List.range R).map (fun i=>if i=k then r else if i=r then k else i):=by have h:=map_set (fun i=>i) R r k;rw[List.map_id'] at h;rw[h,map_set]
theorem b4a (R:Nat) {r k:Nat} (hr:r<R) (hk:k<R):(((List.range R).set r k).set k r).Nodup:=by rw[a1K];refine List.nodup_iff_pairwise_ne.mpr (List.pairwise_iff_getElem.mpr fun i j hi hj h=>?_);simp only[List.getElem_map,List.getElem_range];split<;>split<;>(try split)<;>(try split)<;>omega
theorem swp_get {R r k:Nat} (hr:r<R):(((List.range R).set r k).set k r).getD r 0=k:=by
 rw[a1K,iL hr];by_cases e:r=k
 ·rw[dn e];exact e
 ·rw[bn e,dn rfl]
theorem isM.c0n {a b:MQ} {R n C:Nat} (h:isM a R n) (g:isM b n C) {i j:Nat} (hi:i<R) (hj:j<C):ent (mulM a b) i j=mm n (ent a) (ent b) i j:=by unfold mulM;rw[h.len,g.wd,g.len];exact eF hi hj
theorem isM.c4k {a:MQ} {R C:Nat} (h:isM a R C) {i j:Nat} (hi:i<C) (hj:j<R):ent (trM a) i j=ent a j i:=by unfold trM;rw[h.len,h.wd];exact eF hi hj
theorem isM.c4x {a b:MQ} {R C:Nat} (h:isM a R C) {i j:Nat} (hi:i<R) (hj:j<C):ent (RZ a b) i j=ent a i j+ent b i j:=by unfold RZ;rw[h.len,h.wd];exact eF hi hj
theorem isM.c6M {a b:MQ} {R C:Nat} (h:isM a R C) {i j:Nat} (hi:i<R) (hj:j<C):ent (VO a b) i j=ent a i j-ent b i j:=by unfold VO;rw[h.len,h.wd];exact eF hi hj
theorem a1o (a:MQ) (x:List Rat):(mvL a x).length=a.length:=by simp[mvL]
theorem c6u {a:MQ} {R C:Nat} (h:isM a R C) {x:List Rat} {i:Nat} (hi:i<R):lv (mvL a x) i=mv C (ent a) (lv x) i:=by unfold mvL;rw[h.len,h.wd];exact iL hi
end Go.Proofs.YtbkocjmmbkifjaaGreat
