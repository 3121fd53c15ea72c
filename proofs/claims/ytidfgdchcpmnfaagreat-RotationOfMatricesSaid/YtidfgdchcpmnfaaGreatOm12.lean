/-
  Lemmas for the theorem vofmatrices_holds, part 12 of 32.
-/
import Derived.Test.YtidfgdchcpmnfaaGreatOm11
namespace Go.Proofs.YtidfgdchcpmnfaaGreat
open Go Go.RowKit
set_option linter.unusedSimpArgs false
set_option linter.unusedVariables false
def a3T {α:Type} (f:α->List Part) (d:α) (xs:List α):Nat->Nat->List Part
 | 0,_=>[]
 | n+1,i=>f (xs.getD i d)++a3T f d xs n (i+1)
def flat:(t:Ty)->t.den->List Part
 | .pair a b,x=>flat a x.1++flat b x.2
 | .arr n a,x=>a3T (α:=a.den) (flat a) a.zero x n 0
 | .unit,_=>[]
 | t,x=>[⟨t,x⟩]
theorem oI {α:Type} {R:List Value->α->Prop}:∀ {xs ys:List α} {c d:List Value},chunks R c xs->chunks R d ys->chunks R (c++d) (xs++ys)
 | [],_,c,d,h,k=>by rw[show c=[] from h];exact k
 | x::xs,ys,_,d,⟨c1,c2,h1,h2,h3⟩,k=>⟨c1,c2++d,by rw[h1,List.append_assoc],h2,oI h3 k⟩
theorem nD {α:Type} {R:List Value->α->Prop}:∀ {xs ys:List α} {c:List Value},chunks R c (xs++ys)->∃ c1 c2,c=c1++c2/\chunks R c1 xs/\chunks R c2 ys
 | [],_,c,h=>⟨[],c,rfl,rfl,h⟩
 | x::xs,ys,_,⟨c1,c2,h1,h2,h3⟩=>by
  obtain⟨d1,d2,rfl,k1,k2⟩:=nD h3
  exact⟨c1++d1,d2,by rw[h1,List.append_assoc],⟨c1,d1,rfl,h2,k1⟩,k2⟩
theorem oJ {α:Type} {R:List Value->α->Prop} {x:α} {c:List Value} (h:R c x):chunks R c [x]:=⟨c,[],by simp,h,rfl⟩
theorem a0c {α:Type} {R:List Value->α->Prop} {S:List Value->Part->Prop} {f:α->List Part} {d:α} (h:∀ c x,R c x->chunks S c (f x)):∀ (ys zs:List α) (cs:List Value),chunks R cs zs->chunks S cs (a3T f d (ys++zs) zs.length ys.length)
 | _,[],cs,hc=>hc
 | ys,z::zs,_,⟨c1,c2,h1,h2,h3⟩=>by
  rw[h1]
  simp only[List.length_cons,a3T]
  have e:(ys++z::zs).getD ys.length d=z:=by simp[List.getD_eq_getElem?_getD]
  rw[e]
  have:=a0c (d:=d) h (ys++[z]) zs c2 h3
  rw[List.append_assoc,List.length_append] at this
  exact oI (h _ _ h2) this
theorem EH {F:Nat->Prop} {w:World}:(t:Ty)->(x:t.den)->(cs:List Value)->t.still=true->rep F w t cs x->chunks (iR F w) cs (flat t x)
 | .pair a b,x,cs,hs,⟨c1,c2,h1,h2,h3⟩=>by
  simp only[Ty.still,Bool.and_eq_true] at hs
  rw[h1]
  exact oI (EH a x.1 c1 hs.1 h2) (EH b x.2 c2 hs.2 h3)
 | .unit,x,cs,hs,h=>h
 | .bool,x,cs,hs,h=>oJ ⟨h,hs⟩
 | .int _,x,cs,hs,h=>oJ ⟨h,hs⟩
 | .lf _,x,cs,hs,h=>oJ ⟨h,hs⟩
 | .list _,x,cs,hs,h=>oJ ⟨h,hs⟩
 | .arr n a,x,cs,hs,h=>by
  obtain⟨h1,h2⟩:=h
  have:=a0c (d:=a.zero) (f:=flat a) (fun c y hy=>EH a y c (by simpa [Ty.still] using hs) hy) [] x cs h2
  rw[h1] at this
  exact this
 | .ref _,x,cs,hs,h=>oJ ⟨h,hs⟩
 | .clo _ _,x,cs,hs,h=>oJ ⟨h,hs⟩
def Ty.zc:Ty->Option (List Value)
 | .bool=>some [.bool false]
 | .int k=>some [.int k 0]
 | .lf .rat=>none
 | .lf .big=>some [.bool false,.slice none 0 0]
 | .lf .iH=>some [.bool false,.slice none 0 0,.bool false,.slice none 0 0]
 | .lf .JC=>some [.bool false,.slice none 0 0]
 | .lf .str=>some [.string ByteArray.empty]
 | .list _=>some [.slice none 0 0]
 | .arr n t=>t.zc.map fun c=>(List.replicate n c).flatten
 | .pair a b=>match a.zc,b.zc with
  | some c,some d=>some (c++d)
  | _,_=>none
 | .unit=>some []
 | _=>none
theorem QH (w:World):fJ w (.agg #[.bool false,.slice none 0 0]) true 0:=⟨false,.slice none 0 0,[],rfl,Rd.nil w,by simp,by decide +kernel,by decide +kernel⟩
theorem wY {F:Nat->Prop} {w:World}:(t:Ty)->(c:List Value)->t.zc=some c->rep F w t c t.zero
 | .bool,c,h=>by simp only[Ty.zc,Option.some.injEq] at h;rw[<-h];rfl
 | .int k,c,h=>by simp only[Ty.zc,Option.some.injEq] at h;rw[<-h];rfl
 | .lf .big,c,h=>by
  simp only[Ty.zc,Option.some.injEq] at h;rw[<-h]
  exact(QH w).int
 | .lf .iH,c,h=>by
  simp only[Ty.zc,Option.some.injEq] at h;rw[<-h]
  have h0:=QH w
  exact⟨false,none,0,false,none,0,rfl,⟨_,_,_,_,true,true,0,0,rfl,h0,h0,rfl,rfl⟩,Rd.nil w,Rd.nil w⟩
 | .lf .JC,c,h=>by
  simp only[Ty.zc,Option.some.injEq] at h;rw[<-h]
  exact⟨false,none,0,rfl,QH w,Rd.nil w⟩
 | .lf .str,c,h=>by simp only[Ty.zc,Option.some.injEq] at h;rw[<-h];rfl
 | .list t,c,h=>by
  simp only[Ty.zc,Option.some.injEq] at h;rw[<-h]
  exact⟨none,0,rfl,by simp[Ty.zero],by omega,.inl rfl⟩
 | .arr n t,c,h=>by
  simp only[Ty.zc,Option.map_eq_some_iff] at h
  obtain⟨d,h1,rfl⟩:=h
  refine⟨by simp[Ty.zero],?_⟩
  have hd:=wY (F:=F) (w:=w) t d h1
  show chunks _ _ (List.replicate n t.zero)
  clear h1
  induction n with
  | zero=>exact rfl
  | succ n ih=>exact⟨d,_,by rw[List.replicate_succ,List.flatten_cons],hd,ih⟩
 | .pair a b,c,h=>by
  simp only[Ty.zc] at h
  split at h<;>first|(cases h;done)|skip
  rename_i c1 c2 h1 h2
  simp only[Option.some.injEq] at h
  exact⟨c1,c2,h.symm,wY a c1 h1,wY b c2 h2⟩
 | .unit,c,h=>by simp only[Ty.zc,Option.some.injEq] at h;rw[<-h];rfl
 | .lf .rat,c,h=>by simp[Ty.zc] at h
 | .ref _,c,h=>by simp[Ty.zc] at h
 | .clo _ _,c,h=>by simp[Ty.zc] at h
def veq:Value->Value->Bool
 | .bool a,.bool b=>a==b
 | .int k a,.int k' b=>k==k'&&a==b
 | .slice none 0 0,.slice none 0 0=>true
 | .string a,.string b=>a.data.isEmpty&&b.data.isEmpty
 | _,_=>false
theorem b5M {a b:Value} (h:veq a b=true):a=b:=by
 unfold veq at h
 split at h<;>simp_all
 rename_i a b
 obtain⟨h1,h2⟩:=h
 cases a;cases b
 simp_all
def a6t:List Value->List Value->Bool
 | [],[]=>true
 | a::l,b::m=>veq a b&&a6t l m
 | _,_=>false
theorem a4P:∀ {a b:List Value},a6t a b=true->a=b
 | [],[],_=>rfl
 | a::l,b::m,h=>by
  simp only[a6t,Bool.and_eq_true] at h
  rw[b5M h.1,a4P h.2]
 | [],_::_,h=>by simp[a6t] at h
 | _::_,[],h=>by simp[a6t] at h
def VT (P:Program) (t:TypeId) (ty:Ty):Bool:=match P.info? t,ty.zc with
 | some i,some c=>match i.zero with
  | some z=>a6t z.cells.toList c&&i.size==ty.n
  | none=>false
 | _,_=>false
theorem wZ {P:Program} {t:TypeId} {ty:Ty} (h:VT P t ty=true):∃ i z c,P.info? t=some i/\i.zero=some z/\ty.zc=some c/\z.cells.toList=c/\i.size=ty.n:=by
 unfold VT at h
 split at h<;>first|(cases h;done)|skip
 rename_i i c h1 h2
 split at h<;>first|(cases h;done)|skip
 rename_i z h3
 simp only[Bool.and_eq_true,beq_iff_eq] at h
 exact⟨i,z,c,h1,h3,h2,a4P h.1,h.2⟩
theorem mY {F:Nat->Prop} {w:World}:(t:Ty)->(cs:List Value)->(x:t.den)->rep F w t cs x->(t.toV cs).cells=cs.toArray
 | .bool,_,_,h=>by rw[show _=_ from h];rfl
 | .int _,_,_,h=>by rw[show _=_ from h];rfl
 | .lf .rat,_,_,h=>rfl
 | .lf .big,_,_,h=>rfl
 | .lf .iH,_,_,h=>rfl
 | .lf .JC,_,_,h=>rfl
 | .lf .str,_,_,h=>by rw[show _=_ from h];rfl
 | .lf .grp,_,_,h=>rfl
 | .lf .gsl,_,_,h=>by
  obtain⟨s,rfl,h2⟩:=h
  obtain⟨p,c,rfl,_,_⟩:=h2.form
  rfl
 | .lf .NV,_,_,h=>by
  obtain⟨b,o,rfl,_⟩:=h
  rfl
 | .list t,_,x,⟨p,c,h1,_⟩=>by rw[h1];rfl
 | .arr n t,_,_,_=>rfl
 | .pair a b,_,_,_=>rfl
 | .unit,_,_,h=>rfl
 | .ref t,_,_,⟨b,o,ds,h1,_⟩=>by rw[h1];rfl
 | .clo _ t,_,_,⟨ds,h1,_⟩=>by rw[h1];rfl
def ED:List Part->Nat->Option (List Part × List Part)
 | ps,0=>some ([],ps)
 | [],_+1=>none
 | p::ps,o+1=>if p.t.n<=o+1 then (ED ps (o+1-p.t.n)).map fun q=>(p::q.1,q.2) else none
def packs (g:List Part->Option (Part × List Part)) (t:Ty):Nat->List Part->Option (List t.den × List Part)
 | 0,ps=>some ([],ps)
 | n+1,ps=>match g ps with
  | some (p,qs)=>match jP p.t t p.x,packs g t n qs with
   | some x,some (xs,rs)=>some (x::xs,rs)
   | _,_=>none
  | none=>none
def pack:Ty->List Part->Option (Part × List Part)
 | .pair a b,ps=>match pack a ps with
  | some (p,qs)=>(pack b qs).map fun r=>(⟨.pair p.t r.1.t,(p.x,r.1.x)⟩,r.2)
  | none=>none
 | .arr n a,ps=>match pack a ps with
  | some (p,_)=>(packs (pack a) p.t n ps).map fun r=>(⟨.arr n p.t,r.1⟩,r.2)
  | none=>none
 | .unit,ps=>some (⟨.unit,()⟩,ps)
 | _,p::ps=>some (p,ps)
 | _,[]=>none
theorem iR.len {F:Nat->Prop} {w:World} {c:List Value} {p:Part} (h:iR F w c p):c.length=p.t.n:=dU _ _ _ h.1
def a4J (ps:List Part):Nat:=(ps.map (·.t.n)).sum
theorem pK {F:Nat->Prop} {w:World}:∀ {ps:List Part} {c:List Value},chunks (iR F w) c ps->c.length=a4J ps
 | [],c,h=>by rw[show c=[] from h];rfl
 | p::ps,_,⟨c1,c2,h1,h2,h3⟩=>by rw[h1,List.length_append,h2.len,pK h3];simp[a4J]
theorem rX:∀ (ps:List Part) (o:Nat) (a b:List Part),ED ps o=some (a,b)->ps=a++b/\a4J a=o
 | ps,0,a,b,h=>by
  simp only[ED,Option.some.injEq,Prod.mk.injEq] at h
  obtain⟨rfl,rfl⟩:=h
  exact⟨rfl,rfl⟩
 | [],_+1,a,b,h=>by simp[ED] at h
 | p::ps,o+1,a,b,h=>by
  simp only[ED] at h
  split at h<;>first|(cases h;done)|skip
  rename_i hle
  simp only[Option.map_eq_some_iff,Prod.mk.injEq] at h
  obtain⟨⟨a',b'⟩,h1,rfl,rfl⟩:=h
  obtain⟨h2,h3⟩:=rX ps _ a' b' h1
  exact⟨by rw[h2];rfl,by simp only[a4J,List.map_cons,List.sum_cons] at *;omega⟩
theorem QB {S:List Value->Part->Prop} {R:(t:Ty)->List Value->t.den->Prop} {g:List Part->Option (Part × List Part)} (hS:∀ c p,S c p->R p.t c p.x) (hg:∀ ps p qs c,g ps=some (p,qs)->chunks S c ps->chunks S c (p::qs)) (t:Ty):∀ (n:Nat) (ps:List Part) (xs:List t.den) (rs:List Part) (c:List Value),packs g t n ps=some (xs,rs)->chunks S c ps->∃ c1 c2,c=c1++c2/\xs.length=n/\chunks (R t) c1 xs/\chunks S c2 rs
 | 0,ps,xs,rs,c,h,hc=>by
  simp only[packs,Option.some.injEq,Prod.mk.injEq] at h
  obtain⟨rfl,rfl⟩:=h
  exact⟨[],c,rfl,rfl,rfl,hc⟩
 | n+1,ps,xs,rs,c,h,hc=>by
  simp only[packs] at h
  split at h<;>first|(cases h;done)|skip
  rename_i p qs hgp
  split at h<;>first|(cases h;done)|skip
  rename_i x xs' rs' hx hr
  simp only[Option.some.injEq,Prod.mk.injEq] at h
  obtain⟨rfl,rfl⟩:=h
  obtain⟨c1,c2,rfl,k1,k2⟩:=hg _ _ _ _ hgp hc
  obtain⟨c3,c4,rfl,k3,k4,k5⟩:=QB hS hg t n qs _ _ c2 hr k2
  refine⟨c1++c3,c4,by rw[List.append_assoc],by simp[k3],⟨c1,c3,rfl,?_,k4⟩,k5⟩
  obtain⟨e,hx⟩:=fK hx
  obtain⟨pt,px⟩:=p
  dsimp only at e hx
  subst e
  have:=hS _ _ k1
  rw[<-hx];exact this
theorem rG {F:Nat->Prop} {w:World}:(t:Ty)->(ps:List Part)->(p:Part)->(qs:List Part)->(c:List Value)->pack t ps=some (p,qs)->chunks (iR F w) c ps->∃ c1 c2,c=c1++c2/\iR F w c1 p/\chunks (iR F w) c2 qs
 | .pair a b,ps,p,qs,c,h,hc=>by
  simp only[pack] at h
  split at h<;>first|(cases h;done)|skip
  rename_i p1 q1 h1
  simp only[Option.map_eq_some_iff,Prod.mk.injEq] at h
  obtain⟨⟨p2,q2⟩,h2,rfl,rfl⟩:=h
  obtain⟨c1,c2,rfl,k1,k2⟩:=rG a ps p1 q1 c h1 hc
  obtain⟨c3,c4,rfl,k3,k4⟩:=rG b q1 p2 q2 c2 h2 k2
  exact⟨c1++c3,c4,by rw[List.append_assoc],⟨⟨c1,c3,rfl,k1.1,k3.1⟩,by simp[Ty.still,k1.2,k3.2]⟩,k4⟩
 | .unit,ps,p,qs,c,h,hc=>by
  simp only[pack,Option.some.injEq,Prod.mk.injEq] at h
  obtain⟨rfl,rfl⟩:=h
  exact⟨[],c,rfl,⟨rfl,rfl⟩,hc⟩
 | .bool,[],p,qs,c,h,hc=>by simp[pack] at h
 | .int _,[],p,qs,c,h,hc=>by simp[pack] at h
 | .lf _,[],p,qs,c,h,hc=>by simp[pack] at h
 | .list _,[],p,qs,c,h,hc=>by simp[pack] at h
 | .arr n a,ps,p,qs,c,h,hc=>by
  simp only[pack] at h
  split at h<;>first|(cases h;done)|skip
  rename_i p1 q1 h1
  simp only[Option.map_eq_some_iff,Prod.mk.injEq] at h
  obtain⟨⟨xs,rs⟩,h2,rfl,rfl⟩:=h
  obtain⟨c0,c9,_,k0,_⟩:=rG a ps p1 q1 c h1 hc
  obtain⟨c1,c2,e,k1,k2,k3⟩:=QB (S:=iR F w) (R:=rep F w) (fun c p h=>h.1) (fun ps p qs c h hc=>rG a ps p qs c h hc) p1.t n ps xs rs c h2 hc
  exact⟨c1,c2,e,⟨⟨k1,k2⟩,by have:=k0.2;simpa [Ty.still] using this⟩,k3⟩
 | .ref _,[],p,qs,c,h,hc=>by simp[pack] at h
 | .clo _ _,[],p,qs,c,h,hc=>by simp[pack] at h
 | .bool,p'::ps,p,qs,c,h,hc=>by simp only[pack,Option.some.injEq,Prod.mk.injEq] at h;obtain⟨rfl,rfl⟩:=h;exact hc
 | .int _,p'::ps,p,qs,c,h,hc=>by simp only[pack,Option.some.injEq,Prod.mk.injEq] at h;obtain⟨rfl,rfl⟩:=h;exact hc
 | .lf _,p'::ps,p,qs,c,h,hc=>by simp only[pack,Option.some.injEq,Prod.mk.injEq] at h;obtain⟨rfl,rfl⟩:=h;exact hc
 | .list _,p'::ps,p,qs,c,h,hc=>by simp only[pack,Option.some.injEq,Prod.mk.injEq] at h;obtain⟨rfl,rfl⟩:=h;exact hc
 | .ref _,p'::ps,p,qs,c,h,hc=>by simp only[pack,Option.some.injEq,Prod.mk.injEq] at h;obtain⟨rfl,rfl⟩:=h;exact hc
 | .clo _ _,p'::ps,p,qs,c,h,hc=>by simp only[pack,Option.some.injEq,Prod.mk.injEq] at h;obtain⟨rfl,rfl⟩:=h;exact hc
inductive LK where
 | row (e:TypeId) (t:Ty)
 | mat (e e2:TypeId) (t:Ty)
def LK.el:LK->Ty
 | .row _ t=>t
 | .mat _ _ t=>t
def LK.ty:LK->Ty
 | .row _ t=>.list t
 | .mat _ _ t=>.list (.list t)
def LK.res:(k:LK)->k.ty.den->Nat->Res
 | .row e t,xs,v=>.row e t xs v
 | .mat e e2 t,xss,v=>.mat e e2 t none xss v
inductive YX where
 | mk (k:LK) (args:List Ty) (pre:(nest args).den->Prop) (made:(nest args).den->k.ty.den)
 | chg (k:LK) (args res:List Ty) (pre:k.ty.den->(nest args).den->Prop) (out:k.ty.den->(nest args).den->k.ty.den) (fn:k.ty.den->(nest args).den->(nest res).den)
structure Told where
 ty:TypeId->Option Ty
 el:TypeId->Option Ty
 wr:Nat->Bool
 kb:Nat->Bool
 mt:Nat->Option Ty
 nc:FuncId->List YX
abbrev MK:=Option (List Prop × K × List (Nat × Res))
def after (ρ:Nat->Res):List (Nat × Res)->Nat->Res
 | []=>ρ
 | (r,x)::l=>after (bM ρ r x) l
def Res.isNone:Res->Bool
 | .none=>true
 | _=>false
def VU (t:Ty):K:=match t with
 | .list _=>.nil
 | t=>.val t t.zero
def b0o (T:Told) (r:Nat) (k:K):MK:=if k.one then some ([],.lJ r,[(r,.kT k)]) else none
def XO (T:Told) (r:Nat) (t:Ty) (x:t.den):MK :=
 if T.wr r then (if t.still then some ([],.ptr r 0,[(r,.box (flat t x))]) else none) else some ([],.val (.ref t) x,[])
def ZX (P:Program) (s:TypeId) (i:Nat):Option Nat:=match P.underlying s with
 | some (.struct fs)=>match fs[i]? with
  | some f=>match P.info? f.type with
   | some j=>if j.size=0 then none else some f.offset
   | none=>none
  | none=>none
 | _=>none
def a3P (P:Program) (s:TypeId) (i:Int):Option Nat:=match P.underlying s with
 | some (.array n e)=>match P.info? e,i with
  | some j,.ofNat k=>if k<n then some (k*j.size) else none
  | _,_=>none
 | _=>none
def tH (ρ:Nat->Res):K->Option (Part × List (Nat × Res))
 | .val t x=>some (⟨t,x⟩,[])
 | .own r v=>match ρ r with
  | .row _ t xs v'=>if gv v=gv v' then some (⟨.list t,xs⟩,[(r,.fro t xs v')]) else none
  | .fro t xs v'=>if gv v=gv v' then some (⟨.list t,xs⟩,[]) else none
  | .mat _ _ t none xss v'=>if gv v=gv v' then some (⟨.list (.list t),xss⟩,[(r,.fro (.list t) xss v')]) else none
  | _=>none
 | .mrow r v i=>match ρ r with
  | .mat _ _ t none xss v'=>if v=v' then some (⟨.list t,List.getD (α:=List t.den) xss i []⟩,[(r,.fro (.list t) xss v)]) else none
  | _=>none
 | _=>none
def vX (ρ:Nat->Res) (t:Option Ty):K->Option (Part × List (Nat × Res))
 | .nil=>match t with
  | some (.list t)=>some (⟨.list t,[]⟩,[])
  | _=>none
 | k=>tH ρ k
def a2t (P:Program) (T:Told) (t:TypeId) (ps:List Part) (o:Nat):Option Part:=match ED ps o with
 | some (_,p::qs)=>if fitsT P t p.t then some p else (match T.ty t with
  | some ty=>match pack ty (p::qs) with
   | some (q,_)=>if fitsT P t q.t then some q else none
   | none=>none
  | none=>none)
 | _=>none
def a9e (P:Program) (t:TypeId):List Part->Nat->Option Part
 | [],_=>none
 | p::ps,o=>if p.t.n<=o then a9e P t ps (o-p.t.n) else match nK p.t p.x (if o=0 then 0 else 1) with
  | some (o',q)=>if o'=o/\fitsT P t q.t=true then some q else none
  | none=>none
def a4n (P:Program) (T:Told) (t:TypeId) (ps:List Part) (o:Nat):Option Part:=match a2t P T t ps o with
 | some p=>some p
 | none=>a9e P t ps o
def a3h (P:Program) (t:TypeId) (ps:List Part) (o:Nat) (p:Part):Option (List Part):=match ED ps o with
 | some (a,b)=>match ED b p.t.n with
  | some (_,c)=>if fitsT P t p.t&&p.t.still then some (a++flat p.t p.x++c) else none
  | none=>none
 | none=>none
def pJ (P:Program) (T:Told) (ρ:Nat->Res) (k:Operand->K) (d:Option Nat):Op->MK
 | .alloc t=>match d,T.ty t with
  | some r,some ty=>if (ρ r).isNone&&VT P t ty then (if T.kb r then b0o T r (VU ty) else XO T r ty ty.zero) else none
  | _,_=>none
 | .box t x=>match d,vX ρ (T.ty t) (k x) with
  | some r,some (p,l)=>if (ρ r).isNone&&l.isEmpty then XO T r p.t p.x else none
  | _,_=>none
 | .load t x=>match k x with
  | .ptr r o=>match ρ r with
   | .box ps=>(a4n P T t ps o).map fun p=>([],.val p.t p.x,[])
   | _=>none
  | _=>none
 | .store t x y=>match k x,vX ρ (T.ty t) (k y) with
  | .ptr r o,some (p,l)=>match ρ r with
   | .box ps=>match a3h P t ps o p with
    | some qs=>some ([],.any,l++[(r,.box qs)])
    | none=>none
   | _=>none
  | _,_=>none
 | .fieldAddr s x i=>match k x with
  | .ptr r o=>match ρ r with
   | .box _=>(ZX P s i).map fun q=>([],.ptr r (o+q),[])
   | _=>none
  | _=>none
 | .indexAddr s x i=>match k x,k i with
  | .ptr r o,.val (.int _) n=>match ρ r with
   | .box _=>(a3P P s n).map fun q=>([],.ptr r (o+q),[])
   | _=>none
  | _,_=>none
 | _=>none
def fU (P:Program) (E:Env) (ρ:Nat->Res) (W w:World) (o:Oper) (ev:Operand->Value) (k:K) (l:List (Nat × Res)):Prop :=
 ∃ nx v w' E',(execOp ev o).run P w=.ok nx w'/\(nx=.value v\/nx=.skip/\v=undef)/\Mem E' (after ρ l) W w'/\Ext E ρ w E' (after ρ l) w'/\k.wf (after ρ l)/\k.holds E' (after ρ l) w' v
section
variable {P:Program} {E:Env} {ρ:Nat->Res} {W w:World}
theorem fU.of {s:Sem Value} {o:Oper} {ev:Operand->Value} {kk:K} {l:List (Nat × Res)} (he:execOp ev o=(do pure (.value (<-s)))) (h:∃ v w' E',s.run P w=.ok v w'/\Mem E' (after ρ l) W w'/\Ext E ρ w E' (after ρ l) w'/\kk.wf (after ρ l)/\kk.holds E' (after ρ l) w' v):fU P E ρ W w o ev kk l:=by
 obtain⟨v,w',E',h1,h2⟩:=h
 exact⟨.value v,v,w',E',by rw[he,Sem.run_bind,h1];simp,.inl rfl,h2⟩
theorem Res.lI {x:Res} (h:x.isNone=true):x=.none:=by cases x<;>simp_all [Res.isNone]
theorem UK (T:Told) {r:Nat} {ty:Ty} {x:ty.den} {cs:List Value} (hM:Mem E ρ W w) (hn:(ρ r).isNone=true) (hr:rep (fz w E) w ty cs x) (t:TypeId) {vc:List Prop} {kk:K} {l:List (Nat × Res)} (h:XO T r ty x=some (vc,kk,l)) :
  ∃ E',Mem E' (after ρ l) W (w.alloc (.cells cs.toArray t))/\Ext E ρ w E' (after ρ l) (w.alloc (.cells cs.toArray t))/\kk.wf (after ρ l)/\kk.holds E' (after ρ l) (w.alloc (.cells cs.toArray t)) (.pointer (some ⟨w.heap.size,0,none⟩)):=by
 have hb:Below w.heap.size w (w.alloc (.cells cs.toArray t)):=(Below.refl _ _).alloc (Nat.le_refl _) _
 have hc:(w.alloc (.cells cs.toArray t)).heap[w.heap.size]?=some (.cells cs.toArray t (0,0)):=heap_alloc_new w _
 have hrn:(w.alloc (.cells cs.toArray t)).rangeAt w.heap.size 0 cs:=fun j v hv=>by
  rw[cell_of_row _ _ _ _ _ _ hc];simpa using hv
 unfold XO at h
 split at h
 ·split at h<;>first|(cases h;done)|skip
  rename_i hs
  simp only[Option.some.injEq,Prod.mk.injEq] at h
  obtain⟨_,rfl,rfl⟩:=h
  have hρ:=Res.lI hn
  obtain⟨h1,h2⟩:=hM.turn (w':=w.alloc (.cells cs.toArray t)) r (kD.below hb _) (some w.heap.size) undef (.box (flat ty x))
   ⟨w.heap.size,cs,t,by show bM E.blk r _ r=_;rw[aC],hc,EH ty x cs hs (dA (CS (ρ:=ρ) hb.size (.inr (.inr rfl))) (kD.below (E:=E) hb (fun _=>False)).stay ty _ _ hr)⟩ (.inr (.inr rfl)) rfl (fun k e=>by cases e) (fun h=>by rw[hρ] at h;exact h.elim) (fun h=>by rw[hρ] at h;exact h.elim) (fun v h=>by rw[hρ] at h;exact h.elim) (fun v h=>by rw[hρ] at h;exact h.elim) (fun v h=>h.elim)
  refine⟨_,h1,h2,?_,⟨w.heap.size,?_,rfl⟩⟩
  ·show Res.fQ (bM ρ r _ r);rw[aC];trivial
  ·show bM E.blk r _ r=_;rw[aC]
 ·simp only[Option.some.injEq,Prod.mk.injEq] at h
  obtain⟨_,rfl,rfl⟩:=h
  obtain⟨h1,h2⟩:=hM.grows hb
  refine⟨E,h1,h2,trivial,LY (ρ:=ρ) (yL (by simp) (hM.base _ (.inr hM.below.size)) (fun r' j e=>?_)) hrn (dA h2.fz h2.stay ty _ _ hr)⟩
  have:=hM.lt e;omega
theorem one_cell {k:K} {v:Value} (ho:k.one=true) (hk:k.holds E ρ w v) (hw:∀ r ver,k=.own r ver->Res.isRow ver (ρ r)) (hM:Mem E ρ W w):cZ v=true/\v.cells=#[v]:=by
 cases k with
 | val t x =>
  simp only[K.one,Bool.and_eq_true,Bool.not_eq_true',decide_eq_true_eq] at ho
  obtain⟨⟨h1,h2⟩,h3⟩:=ho
  obtain⟨cs,hv,hr⟩:=hk
  have hl:=dU t cs x hr
  rw[h3] at hl
  match cs,hl with
  | [u],_ =>
   have hu:v=u:=by rw[hv];unfold Ty.toV;rw[h1];rfl
   subst hu
   refine⟨wL t h2 [v] x hr v (by simp),?_⟩
   have:=mY t [v] x hr
   rwa [<-hv] at this
 | nil=>rw[show v=_ from hk];exact⟨by decide,rfl⟩
 | ptr r o=>obtain⟨b,_,rfl⟩:=hk;exact⟨by simp[cZ,aS,Value.oneCell'],rfl⟩
 | own r ver =>
  have h1:=hw r ver rfl
  have h2:v=E.sl r:=hk h1
  have key:∃ p n c,E.sl r=.slice p n c:=by
   have h3:=hM.res r
   have ow:∀ {e n v m cs},w.ownsRow 0 e n v m cs->∃ p n c,v=.slice p n c:=fun {e n v m cs} h=>by
    rcases h.2 with⟨rfl,_⟩|⟨g,cap,cur,rfl,_⟩
    ·exact⟨_,_,_,rfl⟩
    ·exact⟨_,_,_,rfl⟩
   cases hx:ρ r with
   | row e t xs v'=>rw[hx] at h3;obtain⟨_,_,cs,k3,_⟩:=h3;exact ow k3
   | mat e e2 t ids xss v'=>rw[hx] at h3;obtain⟨_,_,⟨cs,k3,_⟩,_⟩:=h3;exact ow k3
   | fro t xs v'=>rw[hx] at h3;obtain⟨_,cs,e1,p,c,e2,_⟩:=h3;rw[e1,e2];exact⟨_,_,_,rfl⟩
   | _=>rw[hx] at h1;exact h1.elim
  obtain⟨p,n,c,e⟩:=key
  rw[h2,e];exact⟨by simp[cZ,aS,Value.oneCell'],rfl⟩
 | _=>simp[K.one] at ho
theorem b0p {T:Told} {r:Nat} {k:K} {v:Value} (hM:Mem E ρ W w) (hn:(ρ r).isNone=true) (hwf:k.wf ρ) (hk:k.holds E ρ w v) (hown:∀ r' ver,k=.own r' ver->Res.isRow ver (ρ r')) (t:TypeId) {vc:List Prop} {kk:K} {l:List (Nat × Res)} (h:b0o T r k=some (vc,kk,l)) :
  ∃ E',Mem E' (after ρ l) W (w.alloc (.cells #[v] t))/\Ext E ρ w E' (after ρ l) (w.alloc (.cells #[v] t))/\kk.wf (after ρ l)/\kk.holds E' (after ρ l) (w.alloc (.cells #[v] t)) (.pointer (some ⟨w.heap.size,0,none⟩)):=by
 unfold b0o at h
 split at h<;>first|(cases h;done)|skip
 rename_i ho
 simp only[Option.some.injEq,Prod.mk.injEq] at h
 obtain⟨_,rfl,rfl⟩:=h
 have hρ:=Res.lI hn
 have hb:Below w.heap.size w (w.alloc (.cells #[v] t)):=(Below.refl _ _).alloc (Nat.le_refl _) _
 have hc:(w.alloc (.cells #[v] t)).heap[w.heap.size]?=some (.cells #[v] t (0,0)):=heap_alloc_new w _
 obtain⟨h1,h2⟩:=hM.FX (w':=w.alloc (.cells #[v] t)) r (kD.below hb _) (some w.heap.size) undef (fun _=>undef) (.kT k) trivial (fun q hq=>by
   rcases hq with hq|⟨i,hq⟩
   ·cases hq;exact .inr (Nat.le_refl _)
   ·cases hq) (fun q i _ hq=>by cases hq) (fun i i' q hq=>by cases hq) (fun i _=>rfl) (fun h=>by rw[hρ] at h;exact h.elim) (fun h=>by rw[hρ] at h;exact h.elim) (fun v h=>by rw[hρ] at h;exact h.elim) (fun v h=>by rw[hρ] at h;exact h.elim) (fun v _ h=>h.elim) (fun hX k' e=>by
   cases e
   exact⟨hX.wf k hwf,ho,w.heap.size,v,t,by show bM E.blk r _ r=_;rw[aC],hc,(one_cell ho hk hown hM).1,hX.holds k v hwf hk⟩)
 refine⟨_,h1,h2,?_,fun _=>⟨w.heap.size,?_,rfl⟩⟩
 ·show Res.BI (bM ρ r _ r);rw[aC];trivial
 ·show bM E.blk r _ r=_;rw[aC]
theorem mQ {E:Env} {F:Nat->Prop} {w:World} {e:TypeId} {t:Ty} {v:Value} {xs:List t.den} {cs:List Value} (h:w.ownsRow 0 e t.n v xs.length cs) (hc:chunks (rep F w t) cs xs) (hF:∀ g,bT v=some g->F g):iZ F w (.list t) v xs:=by
 obtain⟨j1,j2⟩:=h
 rcases j2 with⟨j2,j3⟩|⟨g,cap,cur,e1,e2,e3,e4,e5,e6,e7⟩
 ·have:xs=[]:=List.eq_nil_of_length_eq_zero j3
  subst this
  exact⟨[.slice none 0 0],j2,none,0,rfl,by simp,by omega,.inl rfl⟩
 ·refine⟨[v],rfl,some ⟨g,0,none⟩,cap,by rw[e1],e4,by simp only[maxLen] at e5;omega,?_⟩
  refine .inr ⟨g,0,cs,rfl,hF g (by rw[e1];rfl),fun j u hu=>?_,hc⟩
  rw[Nat.zero_add,cell_of_row w g j cur _ _ e3]
  rw[<-e7] at hu
  have hlt:j<xs.length*t.n:=by
   have:=(List.getElem?_eq_some_iff.1 hu).1
   rw[List.length_take] at this;omega
  rw[List.getElem?_take,if_pos hlt] at hu
  simpa using hu
theorem JJ {α:Type} {R:List Value->α->Prop}:∀ (xs:List α) (f:Nat->Value),(∀ i x,xs[i]?=some x->R [f i] x)->chunks R ((List.range xs.length).map f) xs
 | [],f,h=>rfl
 | x::xs,f,h=>by
  refine⟨[f 0],(List.range xs.length).map (fun i=>f (i+1)),?_,h 0 x rfl,JJ xs (fun i=>f (i+1)) (fun i y hi=>h (i+1) y (by simpa using hi))⟩
  rw[List.length_cons,List.range_succ_eq_map,List.map_cons,List.map_map]
  rfl
theorem getD_at {α:Type} (l:List α) (d:α) (i:Nat) (h:i<l.length):l[i]?=some (l.getD i d):=by
 rw[List.getD_eq_getElem?_getD,List.getElem?_eq_getElem h];rfl
theorem OB {r ver:Nat} {e e2:TypeId} {t:Ty} {xss:List (List t.den)} (hM:Mem E ρ W w) (hr:ρ r=.mat e e2 t none xss ver) :
  Mem (E.put r none (E.sl r)) (bM ρ r (.fro (.list t) xss ver)) W w/\Ext E ρ w (E.put r none (E.sl r)) (bM ρ r (.fro (.list t) xss ver)) w/\iZ (fz w (E.put r none (E.sl r))) w (.list (.list t)) (E.sl r) xss/\∀ i xs,xss[i]?=some xs->iZ (fz w (E.put r none (E.sl r))) w (.list t) (E.inn r i) xs:=by
 have hgo:kD E w w (fun q=>q=r):=⟨rfl,rfl,rfl,Nat.le_refl _,fun _ _ _=>rfl,fun _ _ _ h=>h⟩
 have h1:=hM.res r
 rw[hr] at h1
 obtain⟨k1,k2,⟨cs,k3,k4,k5⟩,k6,k7,k8⟩:=h1
 have hF:=CS (ρ:=ρ) (w':=w) (E:=E) (r:=r) (s:=E.sl r) (Nat.le_refl _) (.inl rfl)
 have hfz:∀ j g,E.has r j g->fz w (E.put r none (E.sl r)) g:=fun j g hh=>by
  refine yL (hM.lt hh) (hM.base _ (hM.mine r j g hh)) (fun r' j' e'=>?_)
  unfold Env.put at e'
  rw[pX] at e'
  split at e'
  ·cases j' with
   | zero=>cases e'
   | succ i=>cases e'
  ·rename_i hne
   exact hne (hM.inj _ _ _ _ _ e' hh).1
 have hlen:(dW (α:=List t.den) none xss).length=List.length (α:=(Ty.list t).den) xss:=by simp only[dW,List.length_range];rfl
 rw[hlen] at k3
 have hrow:∀ i xs,xss[i]?=some xs->iZ (fz w (E.put r none (E.sl r))) w (.list t) (E.inn r i) xs:=fun i xs hi=>by
  obtain⟨ds,q1,q2,q3⟩:=k8 i xs hi
  exact mQ (E:=E) (F:=fz w (E.put r none (E.sl r))) q1 (bC (fun c y=>dA hF (jG.refl _ _) t c y) _ _ q2) (fun g hg=>hfz (i+1) g hg)
 have hvr:iZ (fz w (E.put r none (E.sl r))) w (.list (.list t)) (E.sl r) xss:=mQ (E:=E) (t:=.list t) k3 (by
  rw[k4]
  show chunks _ ((List.range xss.length).map (E.inn r)) xss
  refine JJ _ _ (fun i xs hi=>?_)
  obtain⟨cs9,e9,r9⟩:=hrow i xs hi
  have r8:=r9
  obtain⟨p9,c9,e8,_⟩:=r9
  have e7:cs9=[E.inn r i]:=by
   have:E.inn r i=cs9.headD undef:=e9
   rw[this,e8];rfl
  rw[<-e7];exact r8) (fun g hg=>hfz 0 g (k1.trans hg))
 obtain⟨h2,h3⟩:=hM.turn (w':=w) r hgo none (E.sl r) (.fro (.list t) xss ver) ⟨by show bM E.blk r none r=_;rw[aC],by show iZ _ w _ (bM E.sl r _ r) _;rw[aC];exact hvr⟩ (.inl rfl) rfl (fun k e=>by cases e) (fun h=>by rw[hr] at h;exact h.elim) (fun h=>by rw[hr] at h;exact h.elim) (fun v' hv'=>by rw[hr] at hv';exact hv') (fun v' _ hv'=>⟨by rw[hr];exact hv',rfl,by rw[hr];rfl⟩) (fun v' h=>h.elim)
 exact⟨h2,h3,hvr,hrow⟩
theorem a4U {k:K} {p:Part} {l:List (Nat × Res)} {v:Value} (h:tH ρ k=some (p,l)) (hM:Mem E ρ W w) (hw:k.wf ρ) (hk:k.holds E ρ w v) :
  ∃ E',Mem E' (after ρ l) W w/\Ext E ρ w E' (after ρ l) w/\iZ (fz w E') w p.t v p.x:=by
 cases k<;>try (simp[tH] at h;done)
 case val t x =>
  simp only[tH,Option.some.injEq,Prod.mk.injEq] at h
  obtain⟨rfl,rfl⟩:=h
  exact⟨E,hM,Ext.refl _ _ _,hk⟩
 case own r ver =>
  simp only[tH] at h
  have hgo:kD E w w (fun q=>q=r):=⟨rfl,rfl,rfl,Nat.le_refl _,fun _ _ _=>rfl,fun _ _ _ h=>h⟩
  split at h<;>first|(cases h;done)|skip
  ·rename_i e t xs v' hr
   split at h<;>first|(cases h;done)|skip
   rename_i hv0
   simp only[Option.some.injEq,Prod.mk.injEq] at h
   obtain⟨rfl,rfl⟩:=h
   have hv:v=E.sl r:=hk (by rw[hr];exact hv0.symm)
   have h1:=hM.res r
   rw[hr] at h1
   obtain⟨k1,k2,cs,k3,k4,k5⟩:=h1
   have hF:=CS (ρ:=ρ) (w':=w) (E:=E) (r:=r) (s:=E.sl r) (Nat.le_refl _) (.inl rfl)
   have hvr:iZ (fz w (E.put r none (E.sl r))) w (.list t) (E.sl r) xs:=mQ (E:=E) k3 (bC (fun c y=>dA hF (jG.refl _ _) t c y) _ _ k4) (fun g hg=>by
    have hh:E.has r 0 g:=k1.trans hg
    refine yL (hM.lt hh) (hM.base _ (hM.mine r 0 g hh)) (fun r' j e'=>?_)
    unfold Env.put at e'
    rw[pX] at e'
    split at e'
    ·cases j with
     | zero=>cases e'
     | succ i=>cases e'
    ·rename_i hne
     exact hne (hM.inj _ _ _ _ _ e' hh).1)
   obtain⟨h2,h3⟩:=hM.turn (w':=w) r hgo none (E.sl r) (.fro t xs v') ⟨by show bM E.blk r none r=_;rw[aC],by show iZ _ w _ (bM E.sl r _ r) _;rw[aC];exact hvr⟩ (.inl rfl) rfl (fun k e=>by cases e) (fun h=>by rw[hr] at h;exact h.elim) (fun h=>by rw[hr] at h;exact h.elim) (fun v9 hv'=>by rw[hr] at hv';exact hv') (fun v9 _ hv'=>⟨by rw[hr];exact hv',rfl,by rw[hr];rfl⟩) (fun v9 h=>h.elim)
   exact⟨_,h2,h3,by rw[hv];exact hvr⟩
  ·rename_i t xs v' hr
   split at h<;>first|(cases h;done)|skip
   rename_i hv0
   simp only[Option.some.injEq,Prod.mk.injEq] at h
   obtain⟨rfl,rfl⟩:=h
   have hv:v=E.sl r:=hk (by rw[hr];exact hv0.symm)
   have h1:=hM.res r
   rw[hr] at h1
   exact⟨E,hM,Ext.refl _ _ _,by rw[hv];exact h1.2⟩
  ·rename_i e e2 t xss v' hr
   split at h<;>first|(cases h;done)|skip
   rename_i hv0
   simp only[Option.some.injEq,Prod.mk.injEq] at h
   obtain⟨rfl,rfl⟩:=h
   have hv:v=E.sl r:=hk (by rw[hr];exact hv0.symm)
   obtain⟨h2,h3,h4,_⟩:=OB hM hr
   exact⟨_,h2,h3,by rw[hv];exact h4⟩
 case mrow r ver i =>
  simp only[tH] at h
  split at h<;>first|(cases h;done)|skip
  rename_i e e2 t xss v' hr
  split at h<;>first|(cases h;done)|skip
  rename_i hv
  subst hv
  simp only[Option.some.injEq,Prod.mk.injEq] at h
  obtain⟨rfl,rfl⟩:=h
  have hv:v=E.inn r i:=hk (by rw[hr];rfl)
  have hi:=hw.2 (by rw[hr];rfl)
  rw[hr] at hi
  obtain⟨h2,h3,_,h5⟩:=OB hM hr
  refine⟨_,h2,h3,?_⟩
  rw[hv]
  have h6:=h5 i (List.getD (α:=List t.den) xss i []) (getD_at _ _ _ hi)
  exact h6
theorem qO {k:K} {t:Option Ty} {p:Part} {l:List (Nat × Res)} {v:Value} (h:vX ρ t k=some (p,l)) (hM:Mem E ρ W w) (hw:k.wf ρ) (hk:k.holds E ρ w v) :
  ∃ E',Mem E' (after ρ l) W w/\Ext E ρ w E' (after ρ l) w/\iZ (fz w E') w p.t v p.x:=by
 cases k
 case nil =>
  simp only[vX] at h
  split at h<;>first|(cases h;done)|skip
  rename_i t
  simp only[Option.some.injEq,Prod.mk.injEq] at h
  obtain⟨rfl,rfl⟩:=h
  exact⟨E,hM,Ext.refl _ _ _,[.slice none 0 0],hk,none,0,rfl,by simp,by omega,.inl rfl⟩
 all_goals exact a4U (by simpa only[vX] using h) hM hw hk
end
section
variable {P:Program} {E:Env} {ρ:Nat->Res} {W w:World}
theorem a5D {T:Told} {t:TypeId} {ps:List Part} {o:Nat} {p:Part} {F:Nat->Prop} {cs:List Value} (h:a2t P T t ps o=some p) (hc:chunks (iR F w) cs ps):fitsT P t p.t=true/\∃ c,(cs.drop o).take c.length=c/\rep F w p.t c p.x:=by
 unfold a2t at h
 split at h<;>first|(cases h;done)|skip
 rename_i a p1 qs hd
 obtain⟨rfl,rfl⟩:=rX ps o _ _ hd
 obtain⟨c1,c2,rfl,k1,k2⟩:=nD hc
 have hl:=pK k1
 split at h
 ·rename_i hf
  simp only[Option.some.injEq] at h
  subst h
  obtain⟨c3,c4,rfl,k3,k4⟩:=k2
  exact⟨hf,c3,by rw[<-hl,List.drop_left,List.take_left],k3.1⟩
 ·split at h<;>first|(cases h;done)|skip
  rename_i ty _
  split at h<;>first|(cases h;done)|skip
  rename_i q q2 hp
  split at h<;>first|(cases h;done)|skip
  rename_i hf
  simp only[Option.some.injEq] at h
  subst h
  obtain⟨c3,c4,rfl,k3,k4⟩:=rG ty _ _ _ _ hp k2
  exact⟨hf,c3,by rw[<-hl,List.drop_left,List.take_left],k3.1⟩
theorem a4M {t:TypeId} {F:Nat->Prop}:∀ {ps:List Part} {o:Nat} {p:Part} {cs:List Value},a9e P t ps o=some p->chunks (iR F w) cs ps->fitsT P t p.t=true/\∃ c,(cs.drop o).take c.length=c/\rep F w p.t c p.x
 | [],o,p,cs,h,hc=>by simp[a9e] at h
 | p0::ps,o,p,_,h,⟨c1,c2,h1,h2,h3⟩=>by
  have hl:=h2.len
  simp only[a9e] at h
  split at h
  ·rename_i ho
   obtain⟨k1,c,k2,k3⟩:=a4M h h3
   refine⟨k1,c,?_,k3⟩
   rw[h1,List.drop_append,List.drop_eq_nil_of_le (by omega),List.nil_append,hl]
   exact k2
  ·rename_i ho
   split at h<;>first|(cases h;done)|skip
   rename_i o' q hq
   split at h<;>first|(cases h;done)|skip
   rename_i hh
   obtain⟨rfl,hf⟩:=hh
   simp only[Option.some.injEq] at h
   subst h
   have hr:=tN _ _ _ _ _ c1 hq h2.1
   have hn:=dU _ _ _ hr
   refine⟨hf,_,?_,hr⟩
   rw[hn]
   rw[List.length_take,List.length_drop] at hn
   rw[h1,List.drop_append_of_le_length (by omega),List.take_append_of_le_length (by rw[List.length_drop];omega)]
theorem a0z {T:Told} {t:TypeId} {ps:List Part} {o:Nat} {p:Part} {F:Nat->Prop} {cs:List Value} (h:a4n P T t ps o=some p) (hc:chunks (iR F w) cs ps):fitsT P t p.t=true/\∃ c,(cs.drop o).take c.length=c/\rep F w p.t c p.x:=by
 unfold a4n at h
 split at h
 ·rename_i p' h'
  simp only[Option.some.injEq] at h
  subst h
  exact a5D h' hc
 ·exact a4M h hc
theorem xK {t:TypeId} {ty:Ty} (h:fitsT P t ty=true) {b o:Nat} {ds:List Value} {F:Nat->Prop} {x:ty.den} (hs:ty.still=true) (hc:w.there b o ds.length) (hr:rep F w ty ds x):(storeVar t ⟨b,o,none⟩ (ty.toV ds)).run P w=.ok () (w.setCells b o ds):=by
 obtain⟨⟨i,hi,hn⟩,ha⟩:=iG h
 have hl:=dU ty _ _ hr
 have h1:=wL ty hs _ _ hr
 have hst:=run_storeCells_cells (P:=P) b o ds 0 w (fun j hj=>by simpa using (hc j hj).1) (fun j hj=>by simpa using (hc j hj).2) (fun v hv=>by have:=h1 v hv;simp only[cZ,Bool.and_eq_true] at this;exact this.1)
 simp only[Nat.add_zero] at hst
 have hz:¬ (ty.toV ds).cells.size≠i.size:=by rw[mY ty _ _ hr];simp[hn,hl]
 unfold storeVar
 rw[Sem.run_bind,run_sizeOf hi]
 simp only[Result.andThen_ok,mY ty _ _ hr]
 have hz2:¬ ds.length≠i.size:=by rw[hl,hn];simp
 simp[hl,hn,hst]
theorem kJ (b:Nat):∀ (vs:List Value) (o:Nat) (w:World) (cs:List Value) (e:TypeId),w.heap[b]?=some (.cells cs.toArray e (0,0))->o+vs.length<=cs.length->(w.setCells b o vs).heap[b]?=some (.cells (cs.take o++vs++cs.drop (o+vs.length)).toArray e (0,0))
 | [],o,w,cs,e,h,_=>by simpa [World.setCells] using h
 | v::vs,o,w,cs,e,h,hl=>by
  have h1:(w.setCell ⟨b,o,none⟩ v).heap[b]?=some (.cells (cs.set o v).toArray e (0,0)):=by
   simp only[World.setCell,Array.getElem?_modify,if_true,h,Option.map_some]
   simp
  simp only[List.length_cons] at hl
  have h2:=kJ b vs (o+1) (w.setCell ⟨b,o,none⟩ v) (cs.set o v) e h1 (by simp;omega)
  have:w.setCells b o (v::vs)=(w.setCell ⟨b,o,none⟩ v).setCells b (o+1) vs:=by first|rfl|simp[World.setCells]
  rw[this,h2]
  have la:(cs.take o).length=o:=by rw[List.length_take];omega
  have e9:cs.set o v=cs.take o++([v]++cs.drop (o+1)):=by rw[List.set_eq_take_append_cons_drop,if_pos (by omega)];rfl
  have e1:(cs.set o v).take (o+1)=cs.take o++[v]:=by
   rw[e9,List.take_append,la,List.take_of_length_le (by omega),Nat.add_sub_cancel_left];rfl
  have e2:(cs.set o v).drop (o+1+vs.length)=cs.drop (o+(vs.length+1)):=by
   rw[List.drop_set_of_lt (by omega)];congr 1;omega
  rw[e1,e2]
  simp
theorem a3i {r b:Nat} {cs vs:List Value} {e:TypeId} {o:Nat} (hr:E.blk r=some b) (hb:w.heap[b]?=some (.cells cs.toArray e (0,0))) (hl:o+vs.length<=cs.length) (hn:∀ v ∈ cs,aS v=true):kD E w (w.setCells b o vs) (fun q=>q=r):=by
 have hh:=kJ b vs o w cs e hb hl
 have hsz:∀ (vs:List Value) (o:Nat) (w:World),(w.setCells b o vs).heap.size=w.heap.size/\(w.setCells b o vs).os=w.os/\(w.setCells b o vs).tape=w.tape/\(w.setCells b o vs).output=w.output/\∀ q,q≠b->(w.setCells b o vs).heap[q]?=w.heap[q]?:=by
  intro vs
  induction vs with
  | nil=>intro o w;exact⟨rfl,rfl,rfl,rfl,fun _ _=>rfl⟩
  | cons v vs ih =>
   intro o w
   obtain⟨h1,h2,h3,h4,h5⟩:=ih (o+1) (w.setCell ⟨b,o,none⟩ v)
   exact⟨h1.trans (by simp[World.setCell]),h2,h3,h4,fun q hq=>(h5 q hq).trans (Below.heap_setCell _ _ _ _ hq)⟩
 obtain⟨h1,h2,h3,h4,h5⟩:=hsz vs o w
 refine⟨h2,h3,h4,by omega,fun q hq hne=>h5 q (fun e=>hne r 0 rfl (by show E.blk r=some q;rw[hr,e])),fun q i n hc=>?_⟩
 by_cases e9:q=b
 ·subst e9
  rw[cell_of_row _ _ _ _ _ _ hb] at hc
  have:=hn (.int .u32 n) (by simp at hc;exact List.mem_of_getElem? hc)
  simp[aS] at this
 ·rw[<-hc]
  exact World.cell?_of_block (w:=w) (h5 q e9)
theorem gG {ρ:Nat->Res}:∀ (l m:List (Nat × Res)),after ρ (l++m)=after (after ρ l) m
 | [],_=>rfl
 | (r,x)::l,m=>gG l m
theorem a6m {t:TypeId} {ps qs:List Part} {o:Nat} {p:Part} {cs vs:List Value} {F:Nat->Prop} (h:a3h P t ps o p=some qs) (hc:chunks (iR F w) cs ps) (hv:rep F w p.t vs p.x) :
  fitsT P t p.t=true/\p.t.still=true/\o+vs.length<=cs.length/\chunks (iR F w) (cs.take o++vs++cs.drop (o+vs.length)) qs:=by
 unfold a3h at h
 split at h<;>first|(cases h;done)|skip
 rename_i a b hd
 split at h<;>first|(cases h;done)|skip
 rename_i m c hd2
 split at h<;>first|(cases h;done)|skip
 rename_i hf
 simp only[Bool.and_eq_true] at hf
 simp only[Option.some.injEq] at h
 obtain⟨rfl,h1⟩:=rX ps o _ _ hd
 obtain⟨rfl,h2⟩:=rX b _ _ _ hd2
 obtain⟨c1,c2,rfl,k1,k2⟩:=nD hc
 obtain⟨c3,c4,rfl,k3,k4⟩:=nD k2
 have l1:=pK k1
 have l3:=pK k3
 have lv:=dU _ _ _ hv
 have e1:(c1++(c3++c4)).take o=c1:=by rw[<-h1,<-l1,List.take_left]
 have e2:(c1++(c3++c4)).drop (o+vs.length)=c4:=by rw[<-h1,<-l1,lv,<-h2,<-l3,<-List.drop_drop,List.drop_left,List.drop_left]
 refine⟨hf.1,hf.2,by simp only[List.length_append];omega,?_⟩
 rw[e1,e2,<-h]
 exact oI (oI k1 (EH _ _ _ hf.2 hv)) k4
theorem XU {F:Nat->Prop} {cs:List Value} {ps:List Part} (h:chunks (iR F w) cs ps):∀ v ∈ cs,aS v=true:=by
 have:=zV (p:=cZ) (fun c p (hp:iR F w c p)=>wL p.t hp.2 c p.x hp.1) ps cs h
 intro v hv
 have:=this v hv
 simp only[cZ,Bool.and_eq_true] at this
 exact this.2
theorem a6Q {T:Told} {k:Operand->K} {ev:Operand->Value} {o:Oper} {vc:List Prop} {kk:K} {l:List (Nat × Res)} (h:pJ P T ρ k o.dst o.op=some (vc,kk,l)) (hM:Mem E ρ W w) (hw:∀ x,(k x).wf ρ) (hk:∀ x,(k x).holds E ρ w (ev x)):fU P E ρ W w o ev kk l:=by
 cases ho:o.op<;>rw[ho] at h<;>try (simp[pJ] at h;done)
 case alloc t =>
  simp only[pJ] at h
  split at h<;>first|(cases h;done)|skip
  rename_i r ty hd ht
  split at h<;>first|(cases h;done)|skip
  rename_i hz
  simp only[Bool.and_eq_true] at hz
  obtain⟨i,z,c,h1,h2,h3,h4,h5⟩:=wZ hz.2
  split at h
  ·have h9:=h
   unfold b0o at h9
   split at h9<;>first|(cases h9;done)|skip
   rename_i ho9
   obtain⟨u,hu,hku⟩:∃ u,c=[u]/\(VU ty).holds E ρ w u:=by
    have hr:=wY (F:=fz w E) (w:=w) ty c h3
    cases ty<;>try (simp[VU,K.one] at ho9;done)
    case list t9 =>
     simp only[Ty.zc,Option.some.injEq] at h3
     exact⟨.slice none 0 0,h3.symm,rfl⟩
    all_goals
     simp only[VU,K.one,Bool.and_eq_true,Bool.not_eq_true',decide_eq_true_eq] at ho9
     have hl:=dU _ c _ hr
     rw[ho9.2] at hl
     match c,hl with
     | [u],_=>exact⟨u,rfl,[u],by unfold Ty.toV;rw[ho9.1.1];rfl,hr⟩
   subst hu
   obtain⟨E',k1,k2,k3,k4⟩:=b0p hM hz.1 (by unfold VU;split<;>trivial) hku (fun r' ver e=>by unfold VU at e;split at e<;>cases e) t h
   refine fU.of (by simp only[execOp,ho];rfl) ⟨.pointer (some ⟨w.heap.size,0,none⟩),_,E',?_,k1,k2,k3,k4⟩
   rw[show (#[u]:Array Value)=z.cells from by rw[<-Array.toArray_toList (xs:=z.cells),h4]]
   simp[Instr.alloc,zeroValue,typeInfo,h1,h2,newVar,newRow,Sem.run_bind]
  ·obtain⟨E',k1,k2,k3,k4⟩:=UK T hM hz.1 (wY ty c h3) t h
   refine fU.of (by simp only[execOp,ho];rfl) ⟨.pointer (some ⟨w.heap.size,0,none⟩),_,E',?_,k1,k2,k3,k4⟩
   rw[<-h4]
   simp[Instr.alloc,zeroValue,typeInfo,h1,h2,newVar,newRow,Sem.run_bind]
 case box t x =>
  simp only[pJ] at h
  split at h<;>first|(cases h;done)|skip
  rename_i r p l' hd ht
  split at h<;>first|(cases h;done)|skip
  rename_i hz
  simp only[Bool.and_eq_true] at hz
  obtain⟨E1,m1,m2,cs,hv,hr⟩:=qO ht hM (hw x) (hk x)
  have hl:l'=[]:=by cases l'<;>simp_all
  subst hl
  obtain⟨E',k1,k2,k3,k4⟩:=UK T m1 hz.1 hr t h
  refine fU.of (by simp only[execOp,ho];rfl) ⟨.pointer (some ⟨w.heap.size,0,none⟩),_,E',?_,k1,m2.trans k2,k3,k4⟩
  rw[hv]
  simp[Instr.box,newVar,newRow,Sem.run_bind,mY p.t cs p.x hr]
 case load t x =>
  simp only[pJ] at h
  split at h<;>first|(cases h;done)|skip
  rename_i r off hx
  split at h<;>first|(cases h;done)|skip
  rename_i ps hr
  simp only[Option.map_eq_some_iff,Prod.mk.injEq] at h
  obtain⟨p,h1,_,rfl,rfl⟩:=h
  have hkx:=hk x
  rw[hx] at hkx
  obtain⟨b,hb,hp⟩:=hkx
  have hres:=hM.res r
  rw[hr] at hres
  obtain⟨b',cs,e,k1,k3,k4⟩:=hres
  rw[hb] at k1;cases k1
  obtain⟨hf,c,hc,hrep⟩:=a0z h1 k4
  have hrg:w.rangeAt b off c:=fun j v hv=>by
   rw[cell_of_row _ _ _ _ _ _ k3,<-hv]
   simp only[List.getElem?_toArray]
   rw[<-hc,List.getElem?_take,if_pos (by have:=(List.getElem?_eq_some_iff.1 hv).1;exact this),List.getElem?_drop]
  refine fU.of (by simp only[execOp,ho];rfl) ⟨p.t.toV c,w,E,?_,hM,Ext.refl _ _ _,trivial,c,rfl,hrep⟩
  rw[hp]
  simp only[Instr.loadAt,Instr.sureAddr,Sem.run_bind,Sem.run_pure,Result.andThen_ok]
  exact jR hf hrg hrep
 case store t x y =>
  simp only[pJ] at h
  split at h<;>first|(cases h;done)|skip
  rename_i r off p l' hx hy
  split at h<;>first|(cases h;done)|skip
  rename_i ps hr
  split at h<;>first|(cases h;done)|skip
  rename_i qs hs
  simp only[Option.some.injEq,Prod.mk.injEq] at h
  obtain⟨_,rfl,rfl⟩:=h
  have hkx:=hk x
  rw[hx] at hkx
  obtain⟨E1,m1,m2,vs,hv,hrep⟩:=qO hy hM (hw y) (hk y)
  have hr2:after ρ l' r=.box ps:=by
   cases hky:k y with
   | nil =>
    rw[hky] at hy
    simp only[vX] at hy
    split at hy<;>first|(cases hy;done)|skip
    simp only[Option.some.injEq,Prod.mk.injEq] at hy
    rw[<-hy.2];exact hr
   | own r2 v2 =>
    rw[hky] at hy
    simp only[vX,tH] at hy
    split at hy<;>first|(cases hy;done)|skip
    ·rename_i hr3
     split at hy<;>first|(cases hy;done)|skip
     simp only[Option.some.injEq,Prod.mk.injEq] at hy
     rw[<-hy.2]
     show bM ρ r2 _ r=_
     rw[aU _ _ (fun e=>by rw[<-e,hr] at hr3;cases hr3)];exact hr
    ·split at hy<;>first|(cases hy;done)|skip
     simp only[Option.some.injEq,Prod.mk.injEq] at hy
     rw[<-hy.2];exact hr
    ·rename_i hr3
     split at hy<;>first|(cases hy;done)|skip
     simp only[Option.some.injEq,Prod.mk.injEq] at hy
     rw[<-hy.2]
     show bM ρ r2 _ r=_
     rw[aU _ _ (fun e=>by rw[<-e,hr] at hr3;cases hr3)];exact hr
   | val t x =>
    rw[hky] at hy
    simp only[vX,tH,Option.some.injEq,Prod.mk.injEq] at hy
    rw[<-hy.2];exact hr
   | mrow r2 v2 i2 =>
    rw[hky] at hy
    simp only[vX,tH] at hy
    split at hy<;>first|(cases hy;done)|skip
    rename_i hr3
    split at hy<;>first|(cases hy;done)|skip
    simp only[Option.some.injEq,Prod.mk.injEq] at hy
    rw[<-hy.2]
    show bM ρ r2 _ r=_
    rw[aU _ _ (fun e=>by rw[<-e,hr] at hr3;cases hr3)];exact hr
   | _=>rw[hky] at hy;simp[vX,tH] at hy
  have b7U:=m2.holds _ _ (by have:=hw x;rwa [hx] at this) hkx
  obtain⟨b,hb,hp⟩:=b7U
  have hres:=m1.res r
  rw[hr2] at hres
  obtain⟨b',cs,e,k1,k3,k4⟩:=hres
  rw[hb] at k1;cases k1
  obtain⟨hf,hst,hle,hch⟩:=a6m hs k4 hrep
  have hg:=a3i (vs:=vs) hb k3 hle (XU k4)
  have hI:∀ i,bT (E1.inn r i)=none:=fun i=>m1.inner r i (by rw[hr2];exact Nat.zero_le _)
  have hsz:=hg.size
  have hF:∀ q,fz w E1 q->fz (w.setCells b off vs) (E1.put r (some b) (E1.sl r)) q:=CS (ρ:=ρ) hsz (.inr (.inl hb.symm))
  have hx9:lU (E1.put r (some b) (E1.sl r)) (w.setCells b off vs) r (.box qs) :=
   ⟨b,_,e,by show bM E1.blk r _ r=_;rw[aC],kJ b vs off w cs e k3 hle,bC (fun c p=>iR.mono hF hg.stay) _ _ hch⟩
  obtain⟨n1,n2⟩:=m1.turn r hg (some b) (E1.sl r) (.box qs) hx9 (.inr (.inl hb.symm)) rfl (fun k e=>by cases e) (fun h=>by rw[hr2] at h;exact h.elim) (fun _=>⟨trivial,hb.symm⟩) (fun v h=>by rw[hr2] at h;exact h.elim) (fun v _ hv=>hv.elim) (fun v h=>h.elim)
  refine⟨.skip,undef,w.setCells b off vs,_,?_,.inr ⟨rfl,rfl⟩,by rw[gG];exact n1,by rw[gG];exact m2.trans n2,trivial,trivial⟩
  simp only[execOp,ho,Sem.run_bind,hp,hv,Instr.storeAt,Instr.sureAddr,Sem.run_pure,Result.andThen_ok]
  rw[xK hf hst (fun j hj=>⟨by rw[cell_of_row _ _ _ _ _ _ k3];simp;omega,by simp[World.frozen?,k3]⟩) hrep]
  rfl
 case fieldAddr s x i =>
  simp only[pJ] at h
  split at h<;>first|(cases h;done)|skip
  rename_i r off hx
  split at h<;>first|(cases h;done)|skip
  rename_i ps hr
  simp only[Option.map_eq_some_iff,Prod.mk.injEq] at h
  obtain⟨q,h1,_,rfl,rfl⟩:=h
  have hkx:=hk x
  rw[hx] at hkx
  have hwx:=hw x
  rw[hx] at hwx
  unfold ZX at h1
  split at h1<;>first|(cases h1;done)|skip
  rename_i fs hu
  split at h1<;>first|(cases h1;done)|skip
  rename_i f hf
  split at h1<;>first|(cases h1;done)|skip
  rename_i j hj
  split at h1<;>first|(cases h1;done)|skip
  rename_i hz
  simp only[Option.some.injEq] at h1
  subst h1
  obtain⟨b,hb,hp⟩:=hkx
  refine fU.of (s:=Instr.fieldAt s (ev x) i) (by simp only[execOp,ho]) ⟨.pointer (some ⟨b,off+f.offset,none⟩),w,E,?_,hM,Ext.refl _ _ _,hwx,⟨b,hb,rfl⟩⟩
  simp[hp,Instr.fieldAt,Sem.run_bind,run_underlying hu w,hf,Instr.sureAddr,fieldPlace,run_sizeOf hj,hz,Addr.add_mid]
 case indexAddr s x i =>
  simp only[pJ] at h
  split at h<;>first|(cases h;done)|skip
  rename_i r off kd n hx hi
  split at h<;>first|(cases h;done)|skip
  rename_i ps hr
  simp only[Option.map_eq_some_iff,Prod.mk.injEq] at h
  obtain⟨q,h1,_,rfl,rfl⟩:=h
  have hkx:=hk x
  rw[hx] at hkx
  have hki:=hk i
  rw[hi] at hki
  have hwx:=hw x
  rw[hx] at hwx
  unfold a3P at h1
  split at h1<;>first|(cases h1;done)|skip
  rename_i m e hu
  split at h1<;>first|(cases h1;done)|skip
  rename_i j k9 hj
  split at h1<;>first|(cases h1;done)|skip
  rename_i hlt
  simp only[Option.some.injEq] at h1
  subst h1
  obtain⟨b,hb,hp⟩:=hkx
  refine fU.of (s:=Instr.indexAt s (ev x) (ev i)) (by simp only[execOp,ho]) ⟨.pointer (some ⟨b,off+k9*j.size,none⟩),w,E,?_,hM,Ext.refl _ _ _,hwx,⟨b,hb,rfl⟩⟩
  rw[hp,kM hki]
  have h0:(0:Int)<=Int.ofNat k9:=Int.natCast_nonneg _
  have h2:Int.ofNat k9<(m:Int):=by simp;omega
  simp[Instr.indexAt,asIntOf,Sem.run_bind,run_underlying hu w,Instr.sureAddr,run_sizeOf hj,Addr.add_mid,hlt]
end
end Go.Proofs.YtidfgdchcpmnfaaGreat
