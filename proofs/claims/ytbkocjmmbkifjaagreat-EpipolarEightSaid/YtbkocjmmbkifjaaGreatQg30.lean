/-
  Lemmas for the theorem veight28_holds, part 30 of 32.
-/
import Derived.Test.YtbkocjmmbkifjaaGreatQg26
namespace Go.Proofs.YtbkocjmmbkifjaaGreat
open Go Go.RowKit
set_option linter.unusedSimpArgs false
set_option linter.unusedVariables false
abbrev Rw:=Nat->Rat
def rP (F:List Rw->Rat) (c:Nat):List Rw->List Rw->Rat
 | _,[]=>0
 | pre,x::post=>x c*F (pre++post)-rP F c (pre++[x]) post
def qK:List Nat->List Rw->Rat
 | [],[]=>1
 | [],_::_=>0
 | c::cs,rows=>rP (qK cs) c [] rows
theorem uN {r:List Rw} (h:r≠[]):qK [] r=0:=by cases r with|nil=>exact absurd rfl h|cons=>rfl
def b0T (F:List Rw->Rat):Prop:=∀ a x y b,F (a++x::y::b)=-F (a++y::x::b)
theorem a0D {F:List Rw->Rat} (hF:b0T F) {c:Nat} {p x y:_}:∀ (post q:List Rw),rP F c (p++x::y::q) post=-rP F c (p++y::x::q) post
 | [],q=>by simp only[rP,Rat.neg_zero]
 | z::post,q=>by
  simp only[rP,uz,List.cons_append]
  rw[hF,a0D hF post (q++[z])]
  grind
theorem UH {F:List Rw->Rat} (hF:b0T F) {c:Nat} {x y:Rw} {post:List Rw}:∀ (l pre:List Rw),rP F c pre (l++x::y::post)=-rP F c pre (l++y::x::post)
 | [],pre=>by
  have h:=a0D hF (c:=c) (p:=pre) (x:=x) (y:=y) post []
  simp only[List.nil_append,rP,uz,List.cons_append]
  rw[h]
  grind
 | z::l,pre=>by
  have h:=UH hF (c:=c) (x:=x) (y:=y) (post:=post) l (pre++[z])
  have h2:=hF (pre++l) x y post
  simp only[uz] at h2
  simp only[List.cons_append,rP]
  rw[h,h2]
  grind
theorem TI:∀ cs,b0T (qK cs)
 | []=>fun a x y b=>by
  rw[uN (by simp),uN (by simp)];rfl
 | c::cs=>fun a x y b=>UH (TI cs) a []
theorem a3b {F:List Rw->Rat} (hF:b0T F) {x:Rw} {c:List Rw}:∀ (b a:List Rw),F (a++x::(b++x::c))=0
 | [],a=>by
  have h:=hF a x x c
  simp only[List.nil_append]
  grind
 | y::b,a=>by
  have h:=a3b hF (x:=x) (c:=c) b (a++[y])
  rw[uz] at h
  rw[List.cons_append,hF]
  simp only[List.cons_append,List.nil_append] at h
  rw[h];rfl
theorem a7k {cs:List Nat} {rows:List Rw} {x:Rw} (h:x ∈ rows):qK cs (rows++[x])=0:=by
 obtain⟨a,b,rfl⟩:=List.append_of_mem h
 have:=a3b (TI cs) (x:=x) (c:=[]) b a
 simpa using this
theorem NY {t:Rat} {u v:Rw}:∀ (cs:List Nat) (rows:List Rw),qK cs (rows++[fun i=>u i+t*v i])=qK cs (rows++[u])+t*qK cs (rows++[v])
 | [],rows=>by
  rw[uN (by simp),uN (by simp),uN (by simp)];grind
 | c::cs,rows=>by
  have h:∀ (l pre:List Rw),rP (qK cs) c pre (l++[fun i=>u i+t*v i])=rP (qK cs) c pre (l++[u])+t*rP (qK cs) c pre (l++[v]):=fun l=>by
   induction l with
   | nil=>intro pre;simp only[List.nil_append,rP];grind
   | cons z l ih =>
    intro pre
    have e:=NY cs (pre++l) (t:=t) (u:=u) (v:=v)
    simp only[uz] at e
    simp only[List.cons_append,rP]
    rw[e,ih]
    grind
  exact h rows []
theorem IJ {v:Rw}:∀ (cs:List Nat) (rows:List Rw),(∀ c ∈ cs,v c=0)->qK cs (rows++[v])=0
 | [],rows,_=>uN (by simp)
 | c::cs,rows,hv=>by
  have h:∀ (l pre:List Rw),rP (qK cs) c pre (l++[v])=0:=fun l=>by
   induction l with
   | nil=>intro pre;simp only[List.nil_append,rP];rw[hv c (by simp)];grind
   | cons z l ih =>
    intro pre
    have e:=IJ cs (pre++l) fun d hd=>hv d (by simp[hd])
    simp only[uz] at e
    simp only[List.cons_append,rP]
    rw[e,ih]
    grind
  exact h rows []
def sgA:Nat->Rat
 | 0=>1
 | n+1=>-sgA n
theorem a5l {v:Rw} {c:Nat} {cs:List Nat} (hv:∀ d ∈ cs,v d=0) (rows:List Rw):qK (c::cs) (rows++[v])=sgA rows.length*(v c*qK cs rows):=by
 have h:∀ (l pre:List Rw),rP (qK cs) c pre (l++[v])=sgA l.length*(v c*qK cs (pre++l)):=fun l=>by
  induction l with
  | nil=>intro pre;simp only[List.nil_append,rP,List.length_nil,sgA];grind
  | cons z l ih =>
   intro pre
   have e:=IJ cs (pre++l) hv
   simp only[uz] at e
   simp only[List.cons_append,rP]
   rw[e,ih,uz]
   simp only[List.length_cons,sgA,List.cons_append,List.nil_append]
   grind
 exact h rows []
def isI (x:Rat):Prop:=∃ n:Int,x=(n:Rat)
theorem isI.mul {x y:Rat}:isI x->isI y->isI (x*y)
 | ⟨a,ha⟩,⟨b,hb⟩=>⟨a*b,by rw[ha,hb,xq]⟩
theorem isI.sub {x y:Rat}:isI x->isI y->isI (x-y)
 | ⟨a,ha⟩,⟨b,hb⟩=>⟨a-b,by rw[ha,hb,Rat.intCast_sub]⟩
theorem isI.neg {x:Rat}:isI x->isI (-x)
 | ⟨a,ha⟩=>⟨-a,by rw[ha,Rat.intCast_neg]⟩
def isR (v:Rw):Prop:=∀ i,isI (v i)
theorem ED:∀ (cs:List Nat) (rows:List Rw),(∀ r ∈ rows,isR r)->isI (qK cs rows)
 | [],[],_=>⟨1,rfl⟩
 | [],_::_,_=>⟨0,rfl⟩
 | c::cs,rows,hr=>by
  have h:∀ (l pre:List Rw),(∀ r ∈ pre++l,isR r)->isI (rP (qK cs) c pre l):=fun l=>by
   induction l with
   | nil=>intro pre _;exact⟨0,rfl⟩
   | cons z l ih =>
    intro pre hp
    simp only[rP]
    refine((hp z (by simp) c).mul (ED cs _ fun r hr=>hp r ?_)).sub (ih _ fun r hr=>hp r ?_)
    ·simp only[ug,qp] at hr ⊢;rcases hr with h|h<;>simp[h]
    ·simpa using hr
  exact h rows [] (by simpa using hr)
def Spn (rows:List Rw) (v:Rw):Prop:=∀ P:Rw->Prop,(∀ a ∈ rows,P a)->P (fun _=>0)->(∀ (u w:Rw) (t:Rat),P u->P w->P (fun i=>u i+t*w i))->P v
theorem Spn.det {rows:List Rw} {v:Rw} (h:Spn rows v) (cs:List Nat):qK cs (rows++[v])=0 :=
 h (fun v=>qK cs (rows++[v])=0) (fun a ha=>a7k ha) (IJ cs rows fun _ _=>rfl) (fun u w t hu hw=>by rw[NY,hu,hw];grind)
theorem Spn.mono {rows rows':List Rw} {v:Rw} (h:Spn rows v) (hs:∀ a ∈ rows,a ∈ rows'):Spn rows' v:=fun P h1 h2 h3=>h P (fun a ha=>h1 a (hs a ha)) h2 h3
theorem Spn.mem {rows:List Rw} {v:Rw} (h:v ∈ rows):Spn rows v:=fun P h1 _ _=>h1 v h
theorem Spn.zero {rows:List Rw}:Spn rows (fun _=>0):=fun P _ h2 _=>h2
theorem Spn.add {rows:List Rw} {u w:Rw} {t:Rat} (h1:Spn rows u) (h2:Spn rows w):Spn rows (fun i=>u i+t*w i):=fun P a b c=>c u w t (h1 P a b c) (h2 P a b c)
def kd (R:Nat) (e:Mt):Nat->Rat
 | 0=>1
 | n+1 =>
  if fk (red R e n).1 n (red R e n).2.length (R-(red R e n).2.length)=R then kd R e n
  else kd R e n*(red R e n).1 (fk (red R e n).1 n (red R e n).2.length (R-(red R e n).2.length)) n
def jH (A:Nat->Rw) (r:Nat):List Rw:=(List.range r).map A
theorem a2x (A:Nat->Rw) (r:Nat):jH A (r+1)=jH A r++[A r]:=by unfold jH;rw[Ba,Az];rfl
theorem a1c {A B:Nat->Rw} {r:Nat} (h:∀ i,i<r->A i=B i):jH A r=jH B r:=ny fun i hi=>h i (uj.1 hi)
structure FF (R:Nat) (m:Mt) (p:List Nat) (d:Rat) (A:Nat->Rw):Prop where
 int:∀ i,i<R->isR (A i)
 top:∀ t,t<p.length->Spn (jH A p.length) (m t)
 low:∀ i,p.length<=i->i<R->Spn (jH A p.length) (fun j=>A i j+(-1)*m i j)
 det:qK p.reverse (jH A p.length)=d\/qK p.reverse (jH A p.length)=-d
 nz:d≠0
theorem isI.pm {x d:Rat} (h:x=d\/x=-d) (hx:isI x):isI d:=by
 rcases h with h|h
 ·rw[<-h];exact hx
 ·have:=hx.neg;rw[h,Rat.neg_neg] at this;exact this
theorem b0k:∀ n,sgA n=1\/sgA n=-1
 | 0=>Or.inl rfl
 | n+1=>by
  show -sgA n=1\/-sgA n=-1
  rcases b0k n with h|h<;>rw[h]<;>simp
theorem FF.rows {R:Nat} {m:Mt} {p:List Nat} {d:Rat} {A:Nat->Rw} (F:FF R m p d A) (hp:p.length<=R):∀ r ∈ jH A p.length,isR r:=fun r hr=>by
 obtain⟨i,hi,rfl⟩:=qm.1 hr
 exact F.int i (by have:=uj.1 hi;omega)
theorem b5G {s x d y:Rat} (hs:s=1\/s=-1) (hx:x=d\/x=-d):s*(y*x)=d*y\/s*(y*x)=-(d*y):=by
 rcases hs with h|h<;>rcases hx with k|k<;>rw[h,k]
 ·left;grind
 ·right;grind
 ·right;grind
 ·left;grind
theorem FF.b9M {R:Nat} {m:Mt} {p:List Nat} {d:Rat} {A:Nat->Rw} (F:FF R m p d A) (hp:p.length<=R):isI d:=isI.pm F.det (ED _ _ (F.rows hp))
theorem a1N {R:Nat} {m:Mt} {p:List Nat} {d:Rat} {A:Nat->Rw} (F:FF R m p d A) {a v:Rw} (hs:Spn (jH A p.length) (fun j=>a j+(-1)*v j)) (hv:∀ c ∈ p,v c=0) (j:Nat):qK (j::p.reverse) (jH A p.length++[a])=d*v j\/qK (j::p.reverse) (jH A p.length++[a])=-(d*v j):=by
 have e:a=fun i=>v i+1*(a i+(-1)*v i):=funext fun i=>by grind
 rw[e,NY,hs.det,a5l (fun c hc=>hv c (List.mem_reverse.1 hc))]
 have:=b5G (y:=v j) (b0k (jH A p.length).length) F.det
 rcases this with h|h<;>rw[h]
 ·left;grind
 ·right;grind
theorem FF.isInt {R:Nat} {e m:Mt} {n:Nat} {p:List Nat} {d:Rat} {A:Nat->Rw} (F:FF R m p d A) (E:Ech R e n m p) {i:Nat} (hi:i<R) (j:Nat):isI (d*m i j):=by
 have hr:=F.rows E.le
 by_cases h:p.length<=i
 ·have hv:∀ c ∈ p,m i c=0:=fun c hc=>E.rest i h hi c (E.lt c hc)
  refine isI.pm (a1N F (F.low i h hi) hv j) (ED _ _ fun r hr2=>?_)
  rcases ug.1 hr2 with h2|h2
  ·exact hr r h2
  ·rw[tq.1 h2];exact F.int i hi
 ·have ht:i<p.length:=by omega
  have hv:∀ c ∈ p,(fun c=>(if c=p[i] then 1 else 0)+(-1)*m i c) c=0:=fun c hc=>by
   obtain⟨t,htl,rfl⟩:=Cm hc
   have:=E.unit t htl i hi
   show (if p[t]=p[i] then (1:Rat) else 0)+(-1)*m i p[t]=0
   rw[this]
   by_cases e:i=t
   ·subst e;rw[jl rfl,jl rfl];grind
   ·rw[jd e,jd (fun e2=>e (by have h1:=qR E.nd htl;rw[e2,qR E.nd ht] at h1;exact h1))];grind
  have hs:Spn (jH A p.length) (fun j=>(if j=p[i] then (1:Rat) else 0)+(-1)*((if j=p[i] then (1:Rat) else 0)+(-1)*m i j)):=by
   have:=F.top i ht
   rw[show (fun j=>(if j=p[i] then (1:Rat) else 0)+(-1)*((if j=p[i] then (1:Rat) else 0)+(-1)*m i j))=m i from funext fun j=>by grind]
   exact this
  have h1:isI (d*((if j=p[i] then (1:Rat) else 0)+(-1)*m i j)):=by
   refine isI.pm (a1N F hs hv j) (ED _ _ fun r hr2=>?_)
   rcases ug.1 hr2 with h2|h2
   ·exact hr r h2
   ·rw[tq.1 h2]
    intro c
    show isI (if c=p[i] then (1:Rat) else 0)
    split
    ·exact⟨1,rfl⟩
    ·exact⟨0,rfl⟩
  have h2:isI (d*(if j=p[i] then (1:Rat) else 0)):=(F.b9M E.le).mul (by
   split
   ·exact⟨1,rfl⟩
   ·exact⟨0,rfl⟩)
  have:=h2.sub h1
  rw[show d*(if j=p[i] then (1:Rat) else 0)-d*((if j=p[i] then (1:Rat) else 0)+(-1)*m i j)=d*m i j by grind] at this
  exact this
theorem Spn.smul {rows:List Rw} {u:Rw} {t:Rat} (h:Spn rows u):Spn rows (fun i=>t*u i):=by
 have:=Spn.add (t:=t) Spn.zero h
 rw[show (fun i=>(fun _=>(0:Rat)) i+t*u i)=fun i=>t*u i from funext fun i=>by grind] at this
 exact this
theorem XF {R:Nat} {e:Mt} (he:∀ i,i<R->isR (e i)):∀ n,∃ A:Nat->Rw,FF R (red R e n).1 (red R e n).2 (kd R e n) A
 | 0=>⟨e,he,fun t ht=>absurd ht (Nat.not_lt_zero t),fun i _ _=>by
   show Spn (jH e 0) (fun j=>e i j+(-1)*e i j)
   rw[show (fun j=>e i j+(-1)*e i j)=fun _=>0 from funext fun j=>by grind]
   exact Spn.zero,Or.inl rfl,by show (1:Rat)≠0;decide⟩
 | n+1=>by
  obtain⟨A,F⟩:=XF he n
  have E:=fH R e n
  rw[yR]
  unfold kd
  by_cases h:fk (red R e n).1 n (red R e n).2.length (R-(red R e n).2.length)=R
  ·rw[jl h,jl h];exact⟨A,F⟩
  ·rw[jd h,jd h]
   have hk:=EI (red R e n).1 n (R-(red R e n).2.length) (red R e n).2.length
   have hn:=OH (red R e n).1 n (R-(red R e n).2.length) (red R e n).2.length
   have hle:=E.le
   generalize fk (red R e n).1 n (red R e n).2.length (R-(red R e n).2.length)=k at *
   generalize hm:(red R e n).1=m at *
   generalize hp:(red R e n).2=p at *
   have hkR:k<R:=by omega
   have hnz:m k n≠0:=hn (by omega)
   have hr:p.length<R:=by omega
   have eA:jH (fun i=>if i=p.length then A k else if i=k then A p.length else A i) p.length=jH A p.length:=a1c fun i hi=>by
    show (if i=p.length then A k else if i=k then A p.length else A i)=A i
    rw[jd (by omega),jd (by omega)]
   have eB:jH (fun i=>if i=p.length then A k else if i=k then A p.length else A i) (p++[n]).length=jH A p.length++[A k]:=by
    rw[jg,List.length_singleton,a2x,eA,jl rfl]
   have sub:∀ a ∈ jH A p.length,a ∈ jH A p.length++[A k]:=fun a h=>yw _ h
   have sk:Spn (jH A p.length++[A k]) (m k):=by
    have h1:=(F.low k (by omega) hkR).mono sub
    have h2:Spn (jH A p.length++[A k]) (A k):=Spn.mem (by simp)
    have:=Spn.add (t:=-1) h2 h1
    rw[show (fun i=>A k i+(-1)*(fun j=>A k j+(-1)*m k j) i)=m k from funext fun i=>by grind] at this
    exact this
   have sc:Spn (jH A p.length++[A k]) (fun c=>m k c / m k n):=by
    have:=sk.smul (t:=(m k n)⁻¹)
    rw[show (fun i=>(m k n)⁻¹*m k i)=fun c=>m k c / m k n from funext fun i=>by rw[Rat.div_def,Rat.mul_comm]] at this
    exact this
   show ∃ B:Nat->Rw,FF R (iH m p.length k n) (p++[n]) (kd R e n*m k n) B
   refine⟨fun i=>if i=p.length then A k else if i=k then A p.length else A i,fun i hi=>?_,fun t ht=>?_,fun i h1 h2=>?_,?_,?_⟩
   ·show isR (if i=p.length then A k else if i=k then A p.length else A i)
    split
    ·exact F.int k hkR
    ·split
     ·exact F.int _ hr
     ·exact F.int i hi
   ·rw[eB]
    by_cases e1:t=p.length
    ·rw[show iH m p.length k n t=fun c=>m k c / m k n from funext fun c=>jl e1]
     exact sc
    ·have ht2:t<p.length:=by rw[jg,List.length_singleton] at ht;omega
     have h3:=Spn.add (t:=-(m t n)) ((F.top t ht2).mono sub) sc
     rw[show iH m p.length k n t=fun i=>m t i+-(m t n)*(fun c=>m k c / m k n) i from funext fun c=>by
      show (if t=p.length then _ else gI m p.length k t c-gI m p.length k t n*(m k c / m k n))=_
      rw[jd e1]
      have:gI m p.length k t=m t:=by unfold gI;rw[jd e1,jd (by omega)]
      rw[this];grind]
     exact h3
   ·rw[eB]
    rw[jg,List.length_singleton] at h1
    have e1:i≠p.length:=by omega
    have key:∀ x:Nat,p.length<=x->x<R->gI m p.length k i=m x->(if i=p.length then A k else if i=k then A p.length else A i)=A x->Spn (jH A p.length++[A k]) (fun j=>(if i=p.length then A k else if i=k then A p.length else A i) j+(-1)*iH m p.length k n i j):=fun x hx1 hx2 e2 e3=>by
     have h3:=Spn.add (t:=m x n) ((F.low x hx1 hx2).mono sub) sc
     rw[show (fun j=>(if i=p.length then A k else if i=k then A p.length else A i) j+(-1)*iH m p.length k n i j)=fun j=>(fun j=>A x j+(-1)*m x j) j+m x n*(fun c=>m k c / m k n) j from funext fun c=>by
      rw[e3]
      show A x c+(-1)*(if i=p.length then _ else gI m p.length k i c-gI m p.length k i n*(m k c / m k n))=_
      rw[jd e1,e2];grind]
     exact h3
    by_cases e4:i=k
    ·exact key p.length (ay _) hr (by unfold gI;rw[jd e1,jl e4]) (by rw[jd e1,jl e4])
    ·exact key i (by omega) h2 (by unfold gI;rw[jd e1,jd e4]) (by rw[jd e1,jd e4])
   ·rw[eB,List.reverse_append]
    have hv:∀ c ∈ p,m k c=0:=fun c hc=>E.rest k (by omega) hkR c (E.lt c hc)
    exact a1N F (F.low k (by omega) hkR) hv n
   ·exact fun h0=>(Rat.mul_eq_zero.1 h0).elim F.nz hnz
theorem a8u {R:Nat} {e:Mt} (he:∀ i,i<R->isR (e i)) (n:Nat):kd R e n≠0:=by obtain⟨A,F⟩:=XF he n;exact F.nz
theorem b5d {R:Nat} {e:Mt} (he:∀ i,i<R->isR (e i)) (n:Nat):isI (kd R e n):=by obtain⟨A,F⟩:=XF he n;exact F.b9M (fH R e n).le
theorem b5g {R:Nat} {e:Mt} (he:∀ i,i<R->isR (e i)) (n:Nat) {i:Nat} (hi:i<R) (j:Nat):isI (kd R e n*(red R e n).1 i j):=by obtain⟨A,F⟩:=XF he n;exact F.isInt (fH R e n) hi j
section
theorem isI.num {x:Rat} (h:isI x):((x.num:Int):Rat)=x:=by
 obtain⟨n,rfl⟩:=h
 rw[Rat.num_intCast]
def kmI (R:Nat) (e:Mt) (c i j:Nat):Int:=(kd R e c*(red R e c).1 i j).num
def kdI (R:Nat) (e:Mt) (c:Nat):Int:=(kd R e c).num
def kpv (R:Nat) (e:Mt) (c:Nat):Nat:=fk (red R e c).1 c (red R e c).2.length (R-(red R e c).2.length)
def kln (R:Nat) (e:Mt) (c:Nat):Nat:=(red R e c).2.length
section
variable {R:Nat} {e:Mt} (he:∀ i,i<R->isR (e i))
include he
theorem uF (c:Nat) {i:Nat} (hi:i<R) (j:Nat):((kmI R e c i j:Int):Rat)=kd R e c*(red R e c).1 i j:=(b5g he c hi j).num
theorem XQ (c:Nat):((kdI R e c:Int):Rat)=kd R e c:=(b5d he c).num
theorem a1V (c:Nat):kdI R e c≠0:=fun h=>a8u he c (by rw[<-XQ he c,h];rfl)
theorem a0C (c:Nat) {i:Nat} (hi:i<R) (j:Nat):kmI R e c i j=0↔(red R e c).1 i j=0:=by
 have h:=uF he c hi j
 have h0:=a8u he c
 constructor
 ·intro h1
  rw[h1] at h
  exact(Rat.mul_eq_zero.1 h.symm).elim (fun h2=>absurd h2 h0) id
 ·intro h1
  rw[h1,Rat.mul_zero] at h
  exact Rat.intCast_inj.1 h
omit he in
theorem int_eq {a b:Int} (h:(a:Rat)=(b:Rat)):a=b:=Rat.intCast_inj.1 h
omit he in
theorem c2t {c:Nat} (h:kpv R e c=R):red R e (c+1)=red R e c/\kd R e (c+1)=kd R e c:=by
 unfold kpv at h
 refine⟨?_,?_⟩
 ·rw[yR,jl h]
 ·show (if fk (red R e c).1 c (red R e c).2.length (R-(red R e c).2.length)=R then kd R e c else _)=_
  rw[jl h]
omit he in
theorem a8s {c:Nat} (h:kpv R e c≠R):kln R e c<=kpv R e c/\kpv R e c<R:=by
 have hk:=EI (red R e c).1 c (R-(red R e c).2.length) (red R e c).2.length
 have hle:=(fH R e c).le
 unfold kpv kln at *
 omega
omit he in
theorem a3K {c:Nat} (h:kpv R e c≠R):(red R e (c+1)).1=iH (red R e c).1 (kln R e c) (kpv R e c) c/\(red R e (c+1)).2=(red R e c).2++[c]/\kd R e (c+1)=kd R e c*(red R e c).1 (kpv R e c) c/\(red R e c).1 (kpv R e c) c≠0:=by
 have hlt:=a8s h
 have hn:=OH (red R e c).1 c (R-(red R e c).2.length) (red R e c).2.length
 have hle:=(fH R e c).le
 unfold kpv kln at *
 refine⟨?_,?_,?_,hn (by omega)⟩
 ·rw[yR,jd h]
 ·rw[yR,jd h]
 ·show (if fk (red R e c).1 c (red R e c).2.length (R-(red R e c).2.length)=R then kd R e c else _)=_
  rw[jd h]
theorem b5b {c:Nat} (h:kpv R e c≠R):kdI R e (c+1)=kmI R e c (kpv R e c) c:=by
 apply int_eq
 rw[XQ he,uF he c (a8s h).2,(a3K h).2.2.1]
theorem c0B {c:Nat} (h:kpv R e c≠R) (j:Nat):kmI R e (c+1) (kln R e c) j=kmI R e c (kpv R e c) j:=by
 obtain⟨y1,y2,y3,y4⟩:=a3K h
 have hlt:=a8s h
 apply int_eq
 rw[uF he (c+1) (by omega),uF he c hlt.2,y1,y3]
 unfold iH
 rw[jl rfl,Rat.div_def]
 have:(red R e c).1 (kpv R e c) c*((red R e c).1 (kpv R e c) c)⁻¹=1:=Bl _ y4
 grind
def kix (R:Nat) (e:Mt) (c i:Nat):Nat:=if i=kln R e c then kpv R e c else if i=kpv R e c then kln R e c else i
omit he in
theorem a8B {c i:Nat} (h:kln R e c<=kpv R e c/\kpv R e c<R) (hi:i<R):kix R e c i<R:=by
 unfold kix;split
 ·exact h.2
 ·split<;>omega
theorem b5c {c:Nat} (h:kpv R e c≠R) {i:Nat} (hi:i<R) (hr:i≠kln R e c) (j:Nat):kmI R e c (kpv R e c) c*kmI R e c (kix R e c i) j-kmI R e c (kix R e c i) c*kmI R e c (kpv R e c) j=kdI R e c*kmI R e (c+1) i j:=by
 obtain⟨y1,y2,y3,y4⟩:=a3K h
 have hlt:=a8s h
 have hx:=a8B hlt hi
 apply int_eq
 rw[Rat.intCast_sub,xq,xq,xq,uF he c hlt.2,uF he c hlt.2,uF he c hx,uF he c hx,XQ he,uF he (c+1) hi,y1,y3]
 unfold iH
 rw[jd hr]
 have e1:∀ q,gI (red R e c).1 (kln R e c) (kpv R e c) i q=(red R e c).1 (kix R e c i) q:=fun q=>by
  unfold gI kix
  rw[jd hr,jd hr]
  split<;>rfl
 rw[e1,e1,Rat.div_def]
 have:(red R e c).1 (kpv R e c) c*((red R e c).1 (kpv R e c) c)⁻¹=1:=Bl _ y4
 grind
theorem c0z {c:Nat} (h:kpv R e c≠R) {i:Nat} (hi:i<R) (hr:i≠kln R e c) (j:Nat):(kmI R e c (kpv R e c) c*kmI R e c (kix R e c i) j-kmI R e c (kix R e c i) c*kmI R e c (kpv R e c) j).fdiv (kdI R e c)=kmI R e (c+1) i j:=by
 rw[b5c he h hi hr,Bo _ (a1V he c)]
theorem c0A {c:Nat} {i:Nat} (hi:i<R) (j:Nat):Rat.divInt (-kmI R e c i j) (kdI R e c)=-(red R e c).1 i j:=by
 have h0:=a8u he c
 rw[Eb,Rat.intCast_neg,uF he c hi,XQ he,Rat.div_def]
 have:kd R e c*(kd R e c)⁻¹=1:=Bl _ h0
 grind
omit he in
theorem a1W {K C:Nat} (H:∀ t,t<=C->∀ i,i<R->∀ j,j<C->rsz ((red R e t).1 i j)<=K):∀ c,c<=C->rsz (kd R e c)<=c*K+1
 | 0,_=>by show rsz 1<=_;rw[show rsz 1=1 by decide +kernel];omega
 | c+1,hc=>by
  have ih:=a1W H c (by omega)
  show rsz (if fk (red R e c).1 c (red R e c).2.length (R-(red R e c).2.length)=R then kd R e c else kd R e c*(red R e c).1 (fk (red R e c).1 c (red R e c).2.length (R-(red R e c).2.length)) c)<=_
  rw[yg]
  have hk:=EI (red R e c).1 c (R-(red R e c).2.length) (red R e c).2.length
  have hle:=(fH R e c).le
  split
  ·omega
  ·have h1:=H c (by omega) (fk (red R e c).1 c (red R e c).2.length (R-(red R e c).2.length)) (by omega) c (by omega)
   have h2:=wG (kd R e c) ((red R e c).1 (fk (red R e c).1 c (red R e c).2.length (R-(red R e c).2.length)) c)
   omega
omit he in
theorem b1V {K C:Nat} (H:∀ t,t<=C->∀ i,i<R->∀ j,j<C->rsz ((red R e t).1 i j)<=K) {c i j:Nat} (hc:c<=C) (hi:i<R) (hj:j<C):isz (kmI R e c i j)<=(C+1)*K+1:=by
 have h1:=a1W H c hc
 have h2:=H c hc i hi j hj
 have h3:=wG (kd R e c) ((red R e c).1 i j)
 have h4:=lC (kd R e c*(red R e c).1 i j)
 have h5:c*K<=C*K:=oh K hc
 unfold kmI
 rw[yg]
 omega
omit he in
theorem b1S {K C:Nat} (H:∀ t,t<=C->∀ i,i<R->∀ j,j<C->rsz ((red R e t).1 i j)<=K) {c:Nat} (hc:c<=C):isz (kdI R e c)<=(C+1)*K+1:=by
 have h1:=a1W H c hc
 have h4:=lC (kd R e c)
 have h5:c*K<=C*K:=oh K hc
 unfold kdI
 rw[yg]
 omega
end
end
end Go.Proofs.YtbkocjmmbkifjaaGreat
