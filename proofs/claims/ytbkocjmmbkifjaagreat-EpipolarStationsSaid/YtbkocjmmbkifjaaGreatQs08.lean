/-
  Lemmas for the theorem vstations28_holds, part 8 of 34.
-/
import Derived.Test.YtbkocjmmbkifjaaGreatQs07
namespace Go.Proofs.YtbkocjmmbkifjaaGreat
open Go Go.RowKit
theorem zf:type_of% @List.map_cons:=@List.map_cons
theorem bf:type_of% @List.length_range:=@List.length_range
theorem zl:type_of% @List.length_drop:=@List.length_drop
theorem Dv:type_of% @Nat.add_sub_cancel_left:=@Nat.add_sub_cancel_left
set_option linter.unusedSimpArgs false
set_option linter.unusedVariables false
def a5n {α:Type} (f:α->List Part) (d:α) (xs:List α):Nat->Nat->List Part
 | 0,_=>[]
 | n+1,i=>f (xs.getD i d)++a5n f d xs n (i+1)
def flat:(t:Ty)->t.den->List Part
 | .pair a b,x=>flat a x.1++flat b x.2
 | .arr n a,x=>a5n (α:=a.den) (flat a) a.zero x n 0
 | .unit,_=>[]
 | t,x=>[⟨t,x⟩]
theorem pU {α:Type} {R:List Value->α->Prop}:∀ {xs ys:List α} {c d:List Value},chunks R c xs->chunks R d ys->chunks R (c++d) (xs++ys)
 | [],_,c,d,h,k=>by rw[show c=[] from h];exact k
 | x::xs,ys,_,d,⟨c1,c2,h1,h2,h3⟩,k=>⟨c1,c2++d,by rw[h1,wz],h2,pU h3 k⟩
theorem oC {α:Type} {R:List Value->α->Prop}:∀ {xs ys:List α} {c:List Value},chunks R c (xs++ys)->∃ c1 c2,c=c1++c2/\chunks R c1 xs/\chunks R c2 ys
 | [],_,c,h=>⟨[],c,rfl,rfl,h⟩
 | x::xs,ys,_,⟨c1,c2,h1,h2,h3⟩=>by
  obtain⟨d1,d2,rfl,k1,k2⟩:=oC h3
  exact⟨c1++d1,d2,by rw[h1,wz],⟨c1,d1,rfl,h2,k1⟩,k2⟩
theorem mY {α:Type} {R:List Value->α->Prop} {x:α} {c:List Value} (h:R c x):chunks R c [x]:=⟨c,[],by simp,h,rfl⟩
theorem a1R {α:Type} {R:List Value->α->Prop} {S:List Value->Part->Prop} {f:α->List Part} {d:α} (h:∀ c x,R c x->chunks S c (f x)):∀ (ys zs:List α) (cs:List Value),chunks R cs zs->chunks S cs (a5n f d (ys++zs) zs.length ys.length)
 | _,[],cs,hc=>hc
 | ys,z::zs,_,⟨c1,c2,h1,h2,h3⟩=>by
  rw[h1]
  simp only[List.length_cons,a5n]
  have e:(ys++z::zs).getD ys.length d=z:=by simp[]
  rw[e]
  have:=a1R (d:=d) h (ys++[z]) zs c2 h3
  rw[wz,jl] at this
  exact pU (h _ _ h2) this
theorem GX {F:Nat->Prop} {w:World}:(t:Ty)->(x:t.den)->(cs:List Value)->t.still=true->rep F w t cs x->chunks (gZ F w) cs (flat t x)
 | .pair a b,x,cs,hs,⟨c1,c2,h1,h2,h3⟩=>by
  simp only[Ty.still,au] at hs
  rw[h1]
  exact pU (GX a x.1 c1 hs.1 h2) (GX b x.2 c2 hs.2 h3)
 | .unit,x,cs,hs,h=>h
 | .bool,x,cs,hs,h=>mY ⟨h,hs⟩
 | .int _,x,cs,hs,h=>mY ⟨h,hs⟩
 | .lf _,x,cs,hs,h=>mY ⟨h,hs⟩
 | .list _,x,cs,hs,h=>mY ⟨h,hs⟩
 | .arr n a,x,cs,hs,h=>by
  obtain⟨h1,h2⟩:=h
  have:=a1R (d:=a.zero) (f:=flat a) (fun c y hy=>GX a y c (by simpa [Ty.still] using hs) hy) [] x cs h2
  rw[h1] at this
  exact this
 | .ref _,x,cs,hs,h=>mY ⟨h,hs⟩
 | .clo _ _,x,cs,hs,h=>mY ⟨h,hs⟩
 | .nls _,x,cs,hs,h=>mY ⟨h,hs⟩
def Ty.zc:Ty->Option (List Value)
 | .bool=>some [.bool false]
 | .int k=>some [.int k 0]
 | .lf .rat=>none
 | .lf .big=>some [.bool false,.slice none 0 0]
 | .lf .iL=>some [.bool false,.slice none 0 0,.bool false,.slice none 0 0]
 | .lf .FI=>some [.bool false,.slice none 0 0]
 | .lf .str=>some [.string ByteArray.empty]
 | .list _=>some [.slice none 0 0]
 | .arr n t=>t.zc.map fun c=>(List.replicate n c).flatten
 | .pair a b=>match a.zc,b.zc with
  | some c,some d=>some (c++d)
  | _,_=>none
 | .unit=>some []
 | _=>none
theorem UC (w:World):kN w (.agg #[.bool false,.slice none 0 0]) true 0:=⟨false,.slice none 0 0,[],rfl,Rd.nil w,by simp,by decide +kernel,by decide +kernel⟩
theorem BP {F:Nat->Prop} {w:World}:(t:Ty)->(c:List Value)->t.zc=some c->rep F w t c t.zero
 | .bool,c,h=>by simp only[Ty.zc,ak] at h;rw[<-h];rfl
 | .int k,c,h=>by simp only[Ty.zc,ak] at h;rw[<-h];rfl
 | .lf .big,c,h=>by
  simp only[Ty.zc,ak] at h;rw[<-h]
  exact(UC w).int
 | .lf .iL,c,h=>by
  simp only[Ty.zc,ak] at h;rw[<-h]
  have h0:=UC w
  exact⟨false,none,0,false,none,0,rfl,⟨_,_,_,_,true,true,0,0,rfl,h0,h0,rfl,rfl⟩,Rd.nil w,Rd.nil w⟩
 | .lf .FI,c,h=>by
  simp only[Ty.zc,ak] at h;rw[<-h]
  exact⟨false,none,0,rfl,UC w,Rd.nil w⟩
 | .lf .str,c,h=>by simp only[Ty.zc,ak] at h;rw[<-h];rfl
 | .list t,c,h=>by
  simp only[Ty.zc,ak] at h;rw[<-h]
  exact⟨none,0,rfl,by simp[Ty.zero],by omega,.inl rfl⟩
 | .arr n t,c,h=>by
  simp only[Ty.zc,jw] at h
  obtain⟨d,h1,rfl⟩:=h
  refine⟨by simp[Ty.zero],?_⟩
  have hd:=BP (F:=F) (w:=w) t d h1
  induction n with
  | zero=>exact rfl
  | succ n ih=>exact⟨d,_,by rw[List.replicate_succ,List.flatten_cons],hd,ih⟩
 | .pair a b,c,h=>by
  simp only[Ty.zc] at h
  split at h<;>try(cases h;done)
  rename_i c1 c2 h1 h2
  simp only[ak] at h
  exact⟨c1,c2,h.symm,BP a c1 h1,BP b c2 h2⟩
 | .unit,c,h=>by simp only[Ty.zc,ak] at h;rw[<-h];rfl
def veq:Value->Value->Bool
 | .bool a,.bool b=>a==b
 | .int k a,.int k' b=>k==k'&&a==b
 | .slice none 0 0,.slice none 0 0=>true
 | .string a,.string b=>a.data.isEmpty&&b.data.isEmpty
 | _,_=>false
theorem c1j {a b:Value} (h:veq a b=true):a=b:=by
 unfold veq at h
 split at h<;>simp_all
 rename_i a b
 cases a;cases b
 simp_all
def b5F:List Value->List Value->Bool
 | [],[]=>true
 | a::l,b::m=>veq a b&&b5F l m
 | _,_=>false
theorem a6F:∀ {a b:List Value},b5F a b=true->a=b
 | [],[],_=>rfl
 | a::l,b::m,h=>by
  simp only[b5F,au] at h
  rw[c1j h.1,a6F h.2]
def ZL (P:Program) (t:TypeId) (ty:Ty):Bool:=match P.info? t,ty.zc with
 | some i,some c=>match i.zero with
  | some z=>b5F z.cells.toList c&&i.size==ty.n
  | none=>false
 | _,_=>false
theorem yG {P:Program} {t:TypeId} {ty:Ty} (h:ZL P t ty=true):∃ i z c,P.info? t=some i/\i.zero=some z/\ty.zc=some c/\z.cells.toList=c/\i.size=ty.n:=by
 unfold ZL at h
 split at h<;>try(cases h;done)
 rename_i i c h1 h2
 split at h<;>try(cases h;done)
 rename_i z h3
 simp only[au,jf] at h
 exact⟨i,z,c,h1,h3,h2,a6F h.1,h.2⟩
theorem nS {F:Nat->Prop} {w:World}:(t:Ty)->(cs:List Value)->(x:t.den)->rep F w t cs x->(t.toV cs).cells=cs.toArray
 | .bool,_,_,h=>by rw[show _=_ from h];rfl
 | .int _,_,_,h=>by rw[show _=_ from h];rfl
 | .lf .rat,_,_,h=>rfl
 | .lf .big,_,_,h=>rfl
 | .lf .iL,_,_,h=>rfl
 | .lf .FI,_,_,h=>rfl
 | .lf .str,_,_,h=>by rw[show _=_ from h];rfl
 | .lf .grp,_,_,h=>rfl
 | .lf .gsl,_,_,h=>by
  obtain⟨s,rfl,h2⟩:=h
  obtain⟨p,c,rfl,_,_⟩:=h2.form
  rfl
 | .lf .OA,_,_,h=>by
  obtain⟨b,o,rfl,_⟩:=h
  rfl
 | .lf .esl,_,_,h=>by
  obtain⟨b,rfl⟩:=h
  rfl
 | .list t,_,x,⟨p,c,h1,_⟩=>by rw[h1];rfl
 | .arr n t,_,_,_=>rfl
 | .pair a b,_,_,_=>rfl
 | .unit,_,_,h=>rfl
 | .ref t,_,_,⟨b,o,ds,h1,_⟩=>by rw[h1];rfl
 | .clo _ t,_,_,⟨ds,h1,_⟩=>by rw[h1];rfl
 | .nls t,_,_,h=>by rcases h with⟨_,rfl⟩|⟨ys,b,o,c,ds,_,rfl,_⟩<;>rfl
def NG:List Part->Nat->Option (List Part × List Part)
 | ps,0=>some ([],ps)
 | [],_+1=>none
 | p::ps,o+1=>if p.t.n<=o+1 then (NG ps (o+1-p.t.n)).map fun q=>(p::q.1,q.2) else none
def packs (g:List Part->Option (Part × List Part)) (t:Ty):Nat->List Part->Option (List t.den × List Part)
 | 0,ps=>some ([],ps)
 | n+1,ps=>match g ps with
  | some (p,qs)=>match fU p.t t p.x,packs g t n qs with
   | some x,some (xs,rs)=>some (x::xs,rs)
   | _,_=>none
  | none=>none
def pack:Ty->List Part->Option (Part × List Part)
 | .pair a b,ps=>match pack a ps with
  | some (p,qs)=>(pack b qs).map fun r=>(⟨.pair p.t r.1.t,(p.x,r.1.x)⟩,r.2)
  | none=>none
 | .arr n a,ps=>match pack a ps with
  | some (p,_)=>(packs (pack a) p.t n ps).map fun r=>(⟨.arr n p.t,r.1⟩,r.2)
  | none=>none
 | .unit,ps=>some (⟨.unit,()⟩,ps)
 | _,p::ps=>some (p,ps)
 | _,[]=>none
theorem gZ.len {F:Nat->Prop} {w:World} {c:List Value} {p:Part} (h:gZ F w c p):c.length=p.t.n:=dI _ _ _ h.1
def a6v (ps:List Part):Nat:=(ps.map (·.t.n)).sum
theorem qQ {F:Nat->Prop} {w:World}:∀ {ps:List Part} {c:List Value},chunks (gZ F w) c ps->c.length=a6v ps
 | [],c,h=>by rw[show c=[] from h];rfl
 | p::ps,_,⟨c1,c2,h1,h2,h3⟩=>by rw[h1,jl,h2.len,qQ h3];simp[a6v]
theorem sV:∀ (ps:List Part) (o:Nat) (a b:List Part),NG ps o=some (a,b)->ps=a++b/\a6v a=o
 | ps,0,a,b,h=>by
  simp only[NG] at h
  obtain⟨rfl,rfl⟩:=h
  exact⟨rfl,rfl⟩
 | p::ps,o+1,a,b,h=>by
  simp only[NG] at h
  split at h<;>try(cases h;done)
  simp only[jw] at h
  obtain⟨⟨a',b'⟩,h1,rfl,rfl⟩:=h
  obtain⟨h2,h3⟩:=sV ps _ a' b' h1
  exact⟨by rw[h2];rfl,by simp only[a6v,zf,List.sum_cons] at *;omega⟩
theorem TV {S:List Value->Part->Prop} {R:(t:Ty)->List Value->t.den->Prop} {g:List Part->Option (Part × List Part)} (hS:∀ c p,S c p->R p.t c p.x) (hg:∀ ps p qs c,g ps=some (p,qs)->chunks S c ps->chunks S c (p::qs)) (t:Ty):∀ (n:Nat) (ps:List Part) (xs:List t.den) (rs:List Part) (c:List Value),packs g t n ps=some (xs,rs)->chunks S c ps->∃ c1 c2,c=c1++c2/\xs.length=n/\chunks (R t) c1 xs/\chunks S c2 rs
 | 0,ps,xs,rs,c,h,hc=>by
  obtain⟨rfl,rfl⟩:=h
  exact⟨[],c,rfl,rfl,rfl,hc⟩
 | n+1,ps,xs,rs,c,h,hc=>by
  simp only[packs] at h
  split at h<;>try(cases h;done)
  rename_i p qs hgp
  split at h<;>try(cases h;done)
  rename_i x xs' rs' hx hr
  obtain⟨rfl,rfl⟩:=h
  obtain⟨c1,c2,rfl,k1,k2⟩:=hg _ _ _ _ hgp hc
  obtain⟨c3,c4,rfl,k3,k4,k5⟩:=TV hS hg t n qs _ _ c2 hr k2
  refine⟨c1++c3,c4,by rw[wz],by simp[k3],⟨c1,c3,rfl,?_,k4⟩,k5⟩
  obtain⟨e,hx⟩:=dL hx
  grind
theorem sG {F:Nat->Prop} {w:World}:(t:Ty)->(ps:List Part)->(p:Part)->(qs:List Part)->(c:List Value)->pack t ps=some (p,qs)->chunks (gZ F w) c ps->∃ c1 c2,c=c1++c2/\gZ F w c1 p/\chunks (gZ F w) c2 qs
 | .pair a b,ps,p,qs,c,h,hc=>by
  simp only[pack] at h
  split at h<;>try(cases h;done)
  rename_i p1 q1 h1
  simp only[jw] at h
  obtain⟨⟨p2,q2⟩,h2,rfl,rfl⟩:=h
  obtain⟨c1,c2,rfl,k1,k2⟩:=sG a ps p1 q1 c h1 hc
  obtain⟨c3,c4,rfl,k3,k4⟩:=sG b q1 p2 q2 c2 h2 k2
  exact⟨c1++c3,c4,by rw[wz],⟨⟨c1,c3,rfl,k1.1,k3.1⟩,by simp[Ty.still,k1.2,k3.2]⟩,k4⟩
 | .unit,ps,p,qs,c,h,hc=>by
  obtain⟨rfl,rfl⟩:=h
  exact⟨[],c,rfl,⟨rfl,rfl⟩,hc⟩
 | .arr n a,ps,p,qs,c,h,hc=>by
  simp only[pack] at h
  split at h<;>try(cases h;done)
  rename_i p1 q1 h1
  simp only[jw] at h
  obtain⟨⟨xs,rs⟩,h2,rfl,rfl⟩:=h
  obtain⟨c0,c9,_,k0,_⟩:=sG a ps p1 q1 c h1 hc
  obtain⟨c1,c2,e,k1,k2,k3⟩:=TV (S:=gZ F w) (R:=rep F w) (fun c p h=>h.1) (fun ps p qs c h hc=>sG a ps p qs c h hc) p1.t n ps xs rs c h2 hc
  exact⟨c1,c2,e,⟨⟨k1,k2⟩,by have:=k0.2;simpa [Ty.still] using this⟩,k3⟩
 | .bool,p'::ps,p,qs,c,h,hc=>by simp only[pack] at h;obtain⟨rfl,rfl⟩:=h;exact hc
 | .int _,p'::ps,p,qs,c,h,hc=>by simp only[pack] at h;obtain⟨rfl,rfl⟩:=h;exact hc
 | .lf _,p'::ps,p,qs,c,h,hc=>by simp only[pack] at h;obtain⟨rfl,rfl⟩:=h;exact hc
 | .list _,p'::ps,p,qs,c,h,hc=>by simp only[pack] at h;obtain⟨rfl,rfl⟩:=h;exact hc
 | .ref _,p'::ps,p,qs,c,h,hc=>by simp only[pack] at h;obtain⟨rfl,rfl⟩:=h;exact hc
 | .nls _,p'::ps,p,qs,c,h,hc=>by simp only[pack] at h;obtain⟨rfl,rfl⟩:=h;exact hc
 | .clo _ _,p'::ps,p,qs,c,h,hc=>by simp only[pack] at h;obtain⟨rfl,rfl⟩:=h;exact hc
section
inductive LK where
 | row (e:TypeId) (t:Ty)
 | mat (e e2:TypeId) (t:Ty)
def LK.el:LK->Ty
 | .row _ t=>t
 | .mat _ _ t=>t
def LK.ty:LK->Ty
 | .row _ t=>.list t
 | .mat _ _ t=>.list (.list t)
def LK.res:(k:LK)->k.ty.den->Nat->Res
 | .row e t,xs,v=>.row e t xs v
 | .mat e e2 t,xss,v=>.mat e e2 t none xss v
inductive jZ where
 | mk (k:LK) (args:List Ty) (pre:(nest args).den->Prop) (made:(nest args).den->k.ty.den) [dec:∀ x,Dc (pre x)]
 | chg (k:LK) (args res:List Ty) (pre:k.ty.den->(nest args).den->Prop) (out:k.ty.den->(nest args).den->k.ty.den) (fn:k.ty.den->(nest args).den->(nest res).den) [dec:∀ x y,Dc (pre x y)]
inductive At where
 | ty (t:Ty)
 | fn (g:FuncId)
 | no
structure Told where
 ty:TypeId->Option Ty
 el:TypeId->Option Ty
 wr:Nat->Bool
 kb:Nat->Bool
 mt:Nat->Option Ty
 nc:FuncId->List At->List jZ
abbrev MK:=Option (List Cd × K × List (Nat × Res))
def after (ρ:Nat->Res):List (Nat × Res)->Nat->Res
 | []=>ρ
 | (r,x)::l=>after (bH ρ r x) l
def Res.isNone:Res->Bool
 | .none=>true
 | _=>false
def ZM (t:Ty):K:=match t with
 | .list _=>.nil
 | t=>.val t t.zero
def b4q (T:Told) (r:Nat) (k:K):MK:=if k.one then some ([],.lQ r,[(r,.kF k)]) else none
def a0J (T:Told) (r:Nat) (t:Ty) (x:t.den):MK :=
 if T.wr r then (if t.still then some ([],.ptr r 0,[(r,.box (flat t x))]) else none) else some ([],.val (.ref t) x,[])
def a1L (P:Program) (s:TypeId) (i:Nat):Option Nat:=match P.underlying s with
 | some (.struct fs)=>match fs[i]? with
  | some f=>match P.info? f.type with
   | some j=>if j.size=0 then none else some f.offset
   | none=>none
  | none=>none
 | _=>none
def a5g (P:Program) (s:TypeId) (i:Int):Option Nat:=match P.underlying s with
 | some (.array n e)=>match P.info? e,i with
  | some j,.ofNat k=>if k<n then some (k*j.size) else none
  | _,_=>none
 | _=>none
def rP (ρ:Nat->Res):K->Option (Part × List (Nat × Res))
 | .val t x=>some (⟨t,x⟩,[])
 | .own r v=>match ρ r with
  | .row _ t xs v'=>if gv v=gv v' then some (⟨.list t,xs⟩,[(r,.fro t xs v')]) else none
  | .fro t xs v'=>if gv v=gv v' then some (⟨.list t,xs⟩,[]) else none
  | .mat _ _ t none xss v'=>if gv v=gv v' then some (⟨.list (.list t),xss⟩,[(r,.fro (.list t) xss v')]) else none
  | _=>none
 | .mrow r v i=>match ρ r with
  | .mat _ _ t none xss v'=>if v=v' then some (⟨.list t,List.getD (α:=List t.den) xss i []⟩,[(r,.fro (.list t) xss v)]) else none
  | _=>none
 | _=>none
def vJ (ρ:Nat->Res) (t:Option Ty):K->Option (Part × List (Nat × Res))
 | .nil=>match t with
  | some (.list t)=>some (⟨.list t,[]⟩,[])
  | some (.lf .gsl)=>some (⟨.lf .gsl,[]⟩,[])
  | _=>none
 | k=>rP ρ k
def bTy:Bool->Ty->Ty
 | false,.lf .iL=>.pair (.lf .big) (.pair (.lf .big) .unit)
 | _,t=>t
def a3M (P:Program) (T:Told) (t:TypeId) (ps:List Part) (o:Nat):Option Part:=match NG ps o with
 | some (_,p::qs)=>if fitsT P t p.t then some p else (match (T.ty t).map (bTy false) with
  | some ty=>match pack ty (p::qs) with
   | some (q,_)=>if fitsT P t q.t then some q else none
   | none=>none
  | none=>none)
 | _=>none
def b2A (P:Program) (t:TypeId):List Part->Nat->Option Part
 | [],_=>none
 | p::ps,o=>if p.t.n<=o then b2A P t ps (o-p.t.n) else match lK p.t p.x (if o=0 then 0 else 1) with
  | some (o',q)=>if o'=o/\fitsT P t q.t=true then some q else none
  | none=>none
def a5C (P:Program) (T:Told) (t:TypeId) (ps:List Part) (o:Nat):Option Part:=match a3M P T t ps o with
 | some p=>some p
 | none=>b2A P t ps o
def a4A (P:Program) (t:TypeId) (ps:List Part) (o:Nat) (p:Part):Option (List Part):=match NG ps o with
 | some (a,b)=>match NG b p.t.n with
  | some (_,c)=>if fitsT P t p.t&&p.t.still then some (a++flat p.t p.x++c) else none
  | none=>none
 | none=>none
def qP (P:Program) (T:Told) (ρ:Nat->Res) (k:Operand->K) (d:Option Nat):Op->MK
 | .alloc t=>match d,T.ty t with
  | some r,some ty=>if (ρ r).isNone&&ZL P t ty then (if T.kb r then b4q T r (ZM ty) else a0J T r ty ty.zero) else none
  | _,_=>none
 | .box t x=>match d,vJ ρ (T.ty t) (k x) with
  | some r,some (p,l)=>if (ρ r).isNone&&l.isEmpty then a0J T r p.t p.x else none
  | _,_=>none
 | .load t x=>match k x with
  | .ptr r o=>match ρ r with
   | .box ps=>(a5C P T t ps o).map fun p=>([],.val p.t p.x,[])
   | _=>none
  | _=>none
 | .store t x y=>match k x,vJ ρ (T.ty t) (k y) with
  | .ptr r o,some (p,l)=>match ρ r with
   | .box ps=>match a4A P t ps o p with
    | some qs=>some ([],.any,l++[(r,.box qs)])
    | none=>none
   | _=>none
  | _,_=>none
 | .fieldAddr s x i=>match k x with
  | .ptr r o=>match ρ r with
   | .box _=>(a1L P s i).map fun q=>([],.ptr r (o+q),[])
   | _=>none
  | _=>none
 | .indexAddr s x i=>match k x,k i with
  | .ptr r o,.val (.int _) n=>match ρ r with
   | .box _=>(a5g P s n).map fun q=>([],.ptr r (o+q),[])
   | _=>none
  | _,_=>none
 | _=>none
def dV (P:Program) (E:Env) (ρ:Nat->Res) (W w:World) (o:Oper) (ev:Operand->Value) (k:K) (l:List (Nat × Res)):Prop :=
 ∃ nx v w' E',(execOp ev o).run P w=.ok nx w'/\(nx=.value v\/nx=.skip/\v=undef)/\Mem E' (after ρ l) W w'/\Ext E ρ w E' (after ρ l) w'/\k.wf (after ρ l)/\k.holds E' (after ρ l) w' v
section
variable {P:Program} {E:Env} {ρ:Nat->Res} {W w:World}
theorem dV.of {s:Sem Value} {o:Oper} {ev:Operand->Value} {kk:K} {l:List (Nat × Res)} (he:execOp ev o=(do pure (.value (<-s)))) (h:∃ v w' E',s.run P w=.ok v w'/\Mem E' (after ρ l) W w'/\Ext E ρ w E' (after ρ l) w'/\kk.wf (after ρ l)/\kk.holds E' (after ρ l) w' v):dV P E ρ W w o ev kk l:=by
 obtain⟨v,w',E',h1,h2⟩:=h
 exact⟨.value v,v,w',E',by rw[he,jq,h1];simp,.inl rfl,h2⟩
theorem Res.lN {x:Res} (h:x.isNone=true):x=.none:=by cases x<;>simp_all [Res.isNone]
theorem YE (T:Told) {r:Nat} {ty:Ty} {x:ty.den} {cs:List Value} (hM:Mem E ρ W w) (hn:(ρ r).isNone=true) (hr:rep (fz w E) w ty cs x) (t:TypeId) {vc:List Cd} {kk:K} {l:List (Nat × Res)} (h:a0J T r ty x=some (vc,kk,l)) :
  ∃ E',Mem E' (after ρ l) W (w.alloc (.cells cs.toArray t))/\Ext E ρ w E' (after ρ l) (w.alloc (.cells cs.toArray t))/\kk.wf (after ρ l)/\kk.holds E' (after ρ l) (w.alloc (.cells cs.toArray t)) (.pointer (some ⟨w.heap.size,0,none⟩)):=by
 have hb:Below w.heap.size w (w.alloc (.cells cs.toArray t)):=(jo _ _).alloc (ay _) _
 have hc:(w.alloc (.cells cs.toArray t)).heap[w.heap.size]?=some (.cells cs.toArray t (0,0)):=Ci w _
 have hrn:(w.alloc (.cells cs.toArray t)).rangeAt w.heap.size 0 cs:=fun j v hv=>by
  rw[yu _ _ _ _ _ _ hc];simpa using hv
 unfold a0J at h
 split at h
 ·split at h<;>try(cases h;done)
  rename_i hs
  simp only[ak,dh] at h
  obtain⟨_,rfl,rfl⟩:=h
  have hρ:=Res.lN hn
  obtain⟨h1,h2⟩:=hM.turn (w':=w.alloc (.cells cs.toArray t)) r (jI.below hb _) (some w.heap.size) undef (.box (flat ty x))
   ⟨w.heap.size,cs,t,by show bH E.blk r _ r=_;rw[aG],hc,GX ty x cs hs (bW (zG (ρ:=ρ) hb.size (.inr (.inr rfl))) (jI.below (E:=E) hb (fun _=>False)).stay ty _ _ hr)⟩ (.inr (.inr rfl)) rfl (fun k e=>by cases e) (fun h=>by rw[hρ] at h;exact h.elim) (fun h=>by rw[hρ] at h;exact h.elim) (fun v h=>by rw[hρ] at h;exact h.elim) (fun v h=>by rw[hρ] at h;exact h.elim) (fun v h=>h.elim)
  refine⟨_,h1,h2,?_,⟨w.heap.size,?_,rfl⟩⟩
  ·show Res.nN (bH ρ r _ r);rw[aG];trivial
  ·show bH E.blk r _ r=_;rw[aG]
 ·simp only[ak,dh] at h
  obtain⟨_,rfl,rfl⟩:=h
  obtain⟨h1,h2⟩:=hM.grows hb
  refine⟨E,h1,h2,trivial,PL (ρ:=ρ) (qW (by simp) (hM.base _ (.inr hM.below.size)) (fun r' j e=>?_)) hrn (bW h2.fz h2.stay ty _ _ hr)⟩
  have:=hM.lt e;omega
theorem one_cell {k:K} {v:Value} (ho:k.one=true) (hk:k.holds E ρ w v) (hw:∀ r ver,k=.own r ver->Res.isRow ver (ρ r)) (hM:Mem E ρ W w):cO v=true/\v.cells=#[v]:=by
 cases k with
 | val t x =>
  simp only[K.one,au,dw,aj] at ho
  obtain⟨⟨h1,h2⟩,h3⟩:=ho
  obtain⟨cs,hv,hr⟩:=hk
  have hl:=dI t cs x hr
  rw[h3] at hl
  match cs,hl with
  | [u],_ =>
   have hu:v=u:=by rw[hv];unfold Ty.toV;rw[h1];rfl
   subst hu
   refine⟨xR t h2 [v] x hr v (by simp),?_⟩
   have:=nS t [v] x hr
   grind
 | nil=>rw[show v=_ from hk];exact⟨by decide,rfl⟩
 | ptr r o=>obtain⟨b,_,rfl⟩:=hk;exact⟨by simp[cO,dA,Value.oneCell'],rfl⟩
 | own r ver =>
  have h1:=hw r ver rfl
  have h2:v=E.sl r:=hk h1
  have key:∃ p n c,E.sl r=.slice p n c:=by
   have h3:=hM.res r
   have ow:∀ {e n v m cs},w.ownsRow 0 e n v m cs->∃ p n c,v=.slice p n c:=fun {e n v m cs} h=>by
    rcases h.2 with⟨rfl,_⟩|⟨g,cap,cur,rfl,_⟩
    ·grind
    ·grind
   cases hx:ρ r with
   | row e t xs v'=>rw[hx] at h3;obtain⟨_,_,cs,k3,_⟩:=h3;exact ow k3
   | mat e e2 t ids xss v'=>rw[hx] at h3;obtain⟨_,_,⟨cs,k3,_⟩,_⟩:=h3;exact ow k3
   | fro t xs v'=>rw[hx] at h3;obtain⟨_,cs,e1,p,c,e2,_⟩:=h3;rw[e1,e2];exact⟨_,_,_,rfl⟩
   | _=>rw[hx] at h1;exact h1.elim
  obtain⟨p,n,c,e⟩:=key
  rw[h2,e];exact⟨by simp[cO,dA,Value.oneCell'],rfl⟩
 | _=>simp[K.one] at ho
theorem b4r {T:Told} {r:Nat} {k:K} {v:Value} (hM:Mem E ρ W w) (hn:(ρ r).isNone=true) (hwf:k.wf ρ) (hk:k.holds E ρ w v) (hown:∀ r' ver,k=.own r' ver->Res.isRow ver (ρ r')) (t:TypeId) {vc:List Cd} {kk:K} {l:List (Nat × Res)} (h:b4q T r k=some (vc,kk,l)) :
  ∃ E',Mem E' (after ρ l) W (w.alloc (.cells #[v] t))/\Ext E ρ w E' (after ρ l) (w.alloc (.cells #[v] t))/\kk.wf (after ρ l)/\kk.holds E' (after ρ l) (w.alloc (.cells #[v] t)) (.pointer (some ⟨w.heap.size,0,none⟩)):=by
 unfold b4q at h
 split at h<;>try(cases h;done)
 rename_i ho
 simp only[ak,dh] at h
 obtain⟨_,rfl,rfl⟩:=h
 have hρ:=Res.lN hn
 have hb:Below w.heap.size w (w.alloc (.cells #[v] t)):=(jo _ _).alloc (ay _) _
 have hc:(w.alloc (.cells #[v] t)).heap[w.heap.size]?=some (.cells #[v] t (0,0)):=Ci w _
 obtain⟨h1,h2⟩:=hM.EM (w':=w.alloc (.cells #[v] t)) r (jI.below hb _) (some w.heap.size) undef (fun _=>undef) (.kF k) trivial (fun q hq=>by
   rcases hq with hq|⟨i,hq⟩
   ·cases hq;exact .inr (ay _)
   ·cases hq) (fun q i _ hq=>by cases hq) (fun i i' q hq=>by cases hq) (fun i _=>rfl) (fun h=>by rw[hρ] at h;exact h.elim) (fun h=>by rw[hρ] at h;exact h.elim) (fun v h=>by rw[hρ] at h;exact h.elim) (fun v h=>by rw[hρ] at h;exact h.elim) (fun v _ h=>h.elim) (fun hX k' e=>by
   cases e
   exact⟨hX.wf k hwf,ho,w.heap.size,v,t,by show bH E.blk r _ r=_;rw[aG],hc,(one_cell ho hk hown hM).1,hX.holds k v hwf hk⟩)
 refine⟨_,h1,h2,?_,fun _=>⟨w.heap.size,?_,rfl⟩⟩
 ·show Res.DX (bH ρ r _ r);rw[aG];trivial
 ·show bH E.blk r _ r=_;rw[aG]
theorem jX {E:Env} {F:Nat->Prop} {w:World} {e:TypeId} {t:Ty} {v:Value} {xs:List t.den} {cs:List Value} (h:w.ownsRow 0 e t.n v xs.length cs) (hc:chunks (rep F w t) cs xs) (hF:∀ g,bI v=some g->F g):iY F w (.list t) v xs:=by
 obtain⟨j1,j2⟩:=h
 rcases j2 with⟨j2,j3⟩|⟨g,cap,cur,e1,e2,e3,e4,e5,e6,e7⟩
 ·have:xs=[]:=qp j3
  subst this
  exact⟨[.slice none 0 0],j2,none,0,rfl,by simp,by omega,.inl rfl⟩
 ·refine⟨[v],rfl,some ⟨g,0,none⟩,cap,by rw[e1],e4,by simp only[maxLen] at e5;omega,?_⟩
  refine .inr ⟨g,0,cs,rfl,hF g (by rw[e1];rfl),fun j u hu=>?_,hc⟩
  rw[tu,yu w g j cur _ _ e3]
  grind
theorem uU {α:Type} {R:List Value->α->Prop}:∀ (xs:List α) (f:Nat->Value),(∀ i x,xs[i]?=some x->R [f i] x)->chunks R ((List.range xs.length).map f) xs
 | [],f,h=>rfl
 | x::xs,f,h=>by
  refine⟨[f 0],(List.range xs.length).map (fun i=>f (i+1)),?_,h 0 x rfl,uU xs (fun i=>f (i+1)) (fun i y hi=>h (i+1) y (by simpa using hi))⟩
  rw[List.length_cons,List.range_succ_eq_map,zf,List.map_map]
  rfl
theorem getD_at {α:Type} (l:List α) (d:α) (i:Nat) (h:i<l.length):l[i]?=some (l.getD i d):=by grind
theorem RJ {r ver:Nat} {e e2:TypeId} {t:Ty} {xss:List (List t.den)} (hM:Mem E ρ W w) (hr:ρ r=.mat e e2 t none xss ver) :
  Mem (E.put r none (E.sl r)) (bH ρ r (.fro (.list t) xss ver)) W w/\Ext E ρ w (E.put r none (E.sl r)) (bH ρ r (.fro (.list t) xss ver)) w/\iY (fz w (E.put r none (E.sl r))) w (.list (.list t)) (E.sl r) xss/\∀ i xs,xss[i]?=some xs->iY (fz w (E.put r none (E.sl r))) w (.list t) (E.inn r i) xs:=by
 have hgo:jI E w w (fun q=>q=r):=⟨rfl,rfl,rfl,ay _,fun _ _ _=>rfl,fun _ _ _ h=>h⟩
 have h1:=hM.res r
 rw[hr] at h1
 obtain⟨k1,k2,⟨cs,k3,k4,k5⟩,k6,k7,k8⟩:=h1
 have hF:=zG (ρ:=ρ) (w':=w) (E:=E) (r:=r) (s:=E.sl r) (ay _) (.inl rfl)
 have hfz:∀ j g,E.has r j g->fz w (E.put r none (E.sl r)) g:=fun j g hh=>by
  refine qW (hM.lt hh) (hM.base _ (hM.mine r j g hh)) (fun r' j' e'=>?_)
  unfold Env.put at e'
  rw[mD] at e'
  split at e'
  ·cases j' with
   | zero=>cases e'
   | succ i=>cases e'
  ·rename_i hne
   exact hne (hM.inj _ _ _ _ _ e' hh).1
 have hlen:(bJ (α:=List t.den) none xss).length=List.length (α:=(Ty.list t).den) xss:=by simp only[bJ,bf];rfl
 rw[hlen] at k3
 have hrow:∀ i xs,xss[i]?=some xs->iY (fz w (E.put r none (E.sl r))) w (.list t) (E.inn r i) xs:=fun i xs hi=>by
  obtain⟨ds,q1,q2,q3⟩:=k8 i xs hi
  exact jX (E:=E) (F:=fz w (E.put r none (E.sl r))) q1 (aW (fun c y=>bW hF (iP.refl _ _) t c y) _ _ q2) (fun g hg=>hfz (i+1) g hg)
 have hvr:iY (fz w (E.put r none (E.sl r))) w (.list (.list t)) (E.sl r) xss:=jX (E:=E) (t:=.list t) k3 (by
  rw[k4]
  refine uU _ _ (fun i xs hi=>?_)
  obtain⟨cs9,e9,r9⟩:=hrow i xs hi
  have r8:=r9
  obtain⟨p9,c9,e8,_⟩:=r9
  have e7:cs9=[E.inn r i]:=by
   have:E.inn r i=cs9.headD undef:=e9
   grind
  rw[<-e7];exact r8) (fun g hg=>hfz 0 g (k1.trans hg))
 obtain⟨h2,h3⟩:=hM.turn (w':=w) r hgo none (E.sl r) (.fro (.list t) xss ver) ⟨by show bH E.blk r none r=_;rw[aG],by show iY _ w _ (bH E.sl r _ r) _;rw[aG];exact hvr⟩ (.inl rfl) rfl (fun k e=>by cases e) (fun h=>by rw[hr] at h;exact h.elim) (fun h=>by rw[hr] at h;exact h.elim) (fun v' hv'=>by rw[hr] at hv';exact hv') (fun v' _ hv'=>⟨by rw[hr];exact hv',rfl,by rw[hr];rfl⟩) (fun v' h=>h.elim)
 grind
theorem a6Q {k:K} {p:Part} {l:List (Nat × Res)} {v:Value} (h:rP ρ k=some (p,l)) (hM:Mem E ρ W w) (hw:k.wf ρ) (hk:k.holds E ρ w v) :
  ∃ E',Mem E' (after ρ l) W w/\Ext E ρ w E' (after ρ l) w/\iY (fz w E') w p.t v p.x:=by
 cases k<;>try (simp[rP] at h;done)
 case val t x =>
  obtain⟨rfl,rfl⟩:=h
  exact⟨E,hM,Ext.refl _ _ _,hk⟩
 case own r ver =>
  simp only[rP] at h
  have hgo:jI E w w (fun q=>q=r):=⟨rfl,rfl,rfl,ay _,fun _ _ _=>rfl,fun _ _ _ h=>h⟩
  split at h<;>try(cases h;done)
  ·rename_i e t xs v' hr
   split at h<;>try(cases h;done)
   rename_i hv0
   obtain⟨rfl,rfl⟩:=h
   have hv:v=E.sl r:=hk (by rw[hr];exact hv0.symm)
   have h1:=hM.res r
   rw[hr] at h1
   obtain⟨k1,k2,cs,k3,k4,k5⟩:=h1
   have hF:=zG (ρ:=ρ) (w':=w) (E:=E) (r:=r) (s:=E.sl r) (ay _) (.inl rfl)
   have hvr:iY (fz w (E.put r none (E.sl r))) w (.list t) (E.sl r) xs:=jX (E:=E) k3 (aW (fun c y=>bW hF (iP.refl _ _) t c y) _ _ k4) (fun g hg=>by
    have hh:E.has r 0 g:=k1.trans hg
    refine qW (hM.lt hh) (hM.base _ (hM.mine r 0 g hh)) (fun r' j e'=>?_)
    unfold Env.put at e'
    rw[mD] at e'
    split at e'
    ·cases j with
     | zero=>cases e'
     | succ i=>cases e'
    ·rename_i hne
     exact hne (hM.inj _ _ _ _ _ e' hh).1)
   obtain⟨h2,h3⟩:=hM.turn (w':=w) r hgo none (E.sl r) (.fro t xs v') ⟨by show bH E.blk r none r=_;rw[aG],by show iY _ w _ (bH E.sl r _ r) _;rw[aG];exact hvr⟩ (.inl rfl) rfl (fun k e=>by cases e) (fun h=>by rw[hr] at h;exact h.elim) (fun h=>by rw[hr] at h;exact h.elim) (fun v9 hv'=>by rw[hr] at hv';exact hv') (fun v9 _ hv'=>⟨by rw[hr];exact hv',rfl,by rw[hr];rfl⟩) (fun v9 h=>h.elim)
   exact⟨_,h2,h3,by rw[hv];exact hvr⟩
  ·rename_i t xs v' hr
   split at h<;>try(cases h;done)
   rename_i hv0
   obtain⟨rfl,rfl⟩:=h
   have hv:v=E.sl r:=hk (by rw[hr];exact hv0.symm)
   have h1:=hM.res r
   rw[hr] at h1
   exact⟨E,hM,Ext.refl _ _ _,by rw[hv];exact h1.2⟩
  ·rename_i e e2 t xss v' hr
   split at h<;>try(cases h;done)
   rename_i hv0
   obtain⟨rfl,rfl⟩:=h
   have hv:v=E.sl r:=hk (by rw[hr];exact hv0.symm)
   obtain⟨h2,h3,h4,_⟩:=RJ hM hr
   exact⟨_,h2,h3,by rw[hv];exact h4⟩
 case mrow r ver i =>
  simp only[rP] at h
  split at h<;>try(cases h;done)
  rename_i e e2 t xss v' hr
  split at h<;>try(cases h;done)
  rename_i hv
  subst hv
  obtain⟨rfl,rfl⟩:=h
  have hv:v=E.inn r i:=hk (by rw[hr];rfl)
  have hi:=hw.2 (by rw[hr];rfl)
  rw[hr] at hi
  obtain⟨h2,h3,_,h5⟩:=RJ hM hr
  refine⟨_,h2,h3,?_⟩
  rw[hv]
  have h6:=h5 i (List.getD (α:=List t.den) xss i []) (getD_at _ _ _ hi)
  exact h6
theorem mP {k:K} {t:Option Ty} {p:Part} {l:List (Nat × Res)} {v:Value} (h:vJ ρ t k=some (p,l)) (hM:Mem E ρ W w) (hw:k.wf ρ) (hk:k.holds E ρ w v) :
  ∃ E',Mem E' (after ρ l) W w/\Ext E ρ w E' (after ρ l) w/\iY (fz w E') w p.t v p.x:=by
 cases k
 case nil =>
  simp only[vJ] at h
  split at h<;>try(cases h;done)
  ·simp only[ak,dh] at h
   obtain⟨rfl,rfl⟩:=h
   exact⟨E,hM,Ext.refl _ _ _,[.slice none 0 0],hk,none,0,rfl,by simp,by omega,.inl rfl⟩
  ·simp only[ak,dh] at h
   obtain⟨rfl,rfl⟩:=h
   exact⟨E,hM,Ext.refl _ _ _,[.slice none 0 0],hk,_,rfl,Rd.nil w⟩
 all_goals exact a6Q (by simpa only[vJ] using h) hM hw hk
end
end
section
section
variable {P:Program} {E:Env} {ρ:Nat->Res} {W w:World}
theorem a7B {T:Told} {t:TypeId} {ps:List Part} {o:Nat} {p:Part} {F:Nat->Prop} {cs:List Value} (h:a3M P T t ps o=some p) (hc:chunks (gZ F w) cs ps):fitsT P t p.t=true/\∃ c,(cs.drop o).take c.length=c/\rep F w p.t c p.x:=by
 unfold a3M at h
 split at h<;>try(cases h;done)
 rename_i a p1 qs hd
 obtain⟨rfl,rfl⟩:=sV ps o _ _ hd
 obtain⟨c1,c2,rfl,k1,k2⟩:=oC hc
 have hl:=qQ k1
 split at h
 ·rename_i hf
  simp only[ak] at h
  subst h
  obtain⟨c3,c4,rfl,k3,k4⟩:=k2
  exact⟨hf,c3,by rw[<-hl,Az,Ce],k3.1⟩
 ·split at h<;>try(cases h;done)
  rename_i ty _
  split at h<;>try(cases h;done)
  rename_i q q2 hp
  split at h<;>try(cases h;done)
  rename_i hf
  simp only[ak] at h
  subst h
  obtain⟨c3,c4,rfl,k3,k4⟩:=sG ty _ _ _ _ hp k2
  exact⟨hf,c3,by rw[<-hl,Az,Ce],k3.1⟩
theorem a6A {t:TypeId} {F:Nat->Prop}:∀ {ps:List Part} {o:Nat} {p:Part} {cs:List Value},b2A P t ps o=some p->chunks (gZ F w) cs ps->fitsT P t p.t=true/\∃ c,(cs.drop o).take c.length=c/\rep F w p.t c p.x
 | [],o,p,cs,h,hc=>by simp[b2A] at h
 | p0::ps,o,p,_,h,⟨c1,c2,h1,h2,h3⟩=>by
  have hl:=h2.len
  simp only[b2A] at h
  split at h
  ·rename_i ho
   obtain⟨k1,c,k2,k3⟩:=a6A h h3
   refine⟨k1,c,?_,k3⟩
   rw[h1,List.drop_append,List.drop_eq_nil_of_le (by omega),List.nil_append,hl]
   exact k2
  ·rename_i ho
   split at h<;>try(cases h;done)
   rename_i o' q hq
   split at h<;>try(cases h;done)
   rename_i hh
   obtain⟨rfl,hf⟩:=hh
   simp only[ak] at h
   subst h
   have hr:=uY _ _ _ _ _ c1 hq h2.1
   have hn:=dI _ _ _ hr
   refine⟨hf,_,?_,hr⟩
   rw[hn]
   rw[ni,zl] at hn
   rw[h1,List.drop_append_of_le_length (by omega),List.take_append_of_le_length (by rw[zl];omega)]
theorem a2t {T:Told} {t:TypeId} {ps:List Part} {o:Nat} {p:Part} {F:Nat->Prop} {cs:List Value} (h:a5C P T t ps o=some p) (hc:chunks (gZ F w) cs ps):fitsT P t p.t=true/\∃ c,(cs.drop o).take c.length=c/\rep F w p.t c p.x:=by
 unfold a5C at h
 split at h
 ·rename_i p' h'
  simp only[ak] at h
  subst h
  exact a7B h' hc
 ·exact a6A h hc
theorem yL {t:TypeId} {ty:Ty} (h:fitsT P t ty=true) {b o:Nat} {ds:List Value} {F:Nat->Prop} {x:ty.den} (hs:ty.still=true) (hc:w.there b o ds.length) (hr:rep F w ty ds x):(storeVar t ⟨b,o,none⟩ (ty.toV ds)).run P w=.ok () (w.setCells b o ds):=by
 obtain⟨⟨i,hi,hn⟩,ha⟩:=fF h
 have hl:=dI ty _ _ hr
 have h1:=xR ty hs _ _ hr
 have hst:=run_storeCells_cells (P:=P) b o ds 0 w (fun j hj=>by simpa using (hc j hj).1) (fun j hj=>by simpa using (hc j hj).2) (fun v hv=>by have:=h1 v hv;simp only[cO,au] at this;exact this.1)
 simp only[Nat.add_zero] at hst
 have hz:¬ (ty.toV ds).cells.size≠i.size:=by rw[nS ty _ _ hr];simp[hn,hl]
 unfold storeVar
 rw[jq,run_sizeOf hi]
 simp only[Result.andThen_ok,nS ty _ _ hr]
 have hz2:¬ ds.length≠i.size:=by rw[hl,hn];simp
 simp[hl,hn,hst]
theorem jA (b:Nat):∀ (vs:List Value) (o:Nat) (w:World) (cs:List Value) (e:TypeId),w.heap[b]?=some (.cells cs.toArray e (0,0))->o+vs.length<=cs.length->(w.setCells b o vs).heap[b]?=some (.cells (cs.take o++vs++cs.drop (o+vs.length)).toArray e (0,0))
 | [],o,w,cs,e,h,_=>by simpa [World.setCells] using h
 | v::vs,o,w,cs,e,h,hl=>by
  have h1:(w.setCell ⟨b,o,none⟩ v).heap[b]?=some (.cells (cs.set o v).toArray e (0,0)):=by
   simp only[World.setCell,Array.getElem?_modify,Dl,h,Option.map_some]
   simp
  simp only[List.length_cons] at hl
  have h2:=jA b vs (o+1) (w.setCell ⟨b,o,none⟩ v) (cs.set o v) e h1 (by simp;omega)
  have:w.setCells b o (v::vs)=(w.setCell ⟨b,o,none⟩ v).setCells b (o+1) vs:=by first|rfl|simp[World.setCells]
  rw[this,h2]
  have la:(cs.take o).length=o:=by rw[ni];omega
  have e9:cs.set o v=cs.take o++([v]++cs.drop (o+1)):=by rw[List.set_eq_take_append_cons_drop,jm (by omega)];rfl
  have e1:(cs.set o v).take (o+1)=cs.take o++[v]:=by
   rw[e9,List.take_append,la,jv (by omega),Dv];rfl
  have e2:(cs.set o v).drop (o+1+vs.length)=cs.drop (o+(vs.length+1)):=by
   rw[List.drop_set_of_lt (by omega)];congr 1;omega
  rw[e1,e2]
  simp
theorem a4B {r b:Nat} {cs vs:List Value} {e:TypeId} {o:Nat} (hr:E.blk r=some b) (hb:w.heap[b]?=some (.cells cs.toArray e (0,0))) (hl:o+vs.length<=cs.length) (hn:∀ v ∈ cs,dA v=true):jI E w (w.setCells b o vs) (fun q=>q=r):=by
 have hh:=jA b vs o w cs e hb hl
 have hsz:∀ (vs:List Value) (o:Nat) (w:World),(w.setCells b o vs).heap.size=w.heap.size/\(w.setCells b o vs).os=w.os/\(w.setCells b o vs).tape=w.tape/\(w.setCells b o vs).output=w.output/\∀ q,q≠b->(w.setCells b o vs).heap[q]?=w.heap[q]?:=by
  intro vs
  induction vs with
  | nil=>intro o w;exact⟨rfl,rfl,rfl,rfl,fun _ _=>rfl⟩
  | cons v vs ih =>
   intro o w
   obtain⟨h1,h2,h3,h4,h5⟩:=ih (o+1) (w.setCell ⟨b,o,none⟩ v)
   exact⟨h1.trans (by simp[World.setCell]),h2,h3,h4,fun q hq=>(h5 q hq).trans (Below.heap_setCell _ _ _ _ hq)⟩
 obtain⟨h1,h2,h3,h4,h5⟩:=hsz vs o w
 refine⟨h2,h3,h4,by omega,fun q hq hne=>h5 q (fun e=>hne r 0 rfl (by show E.blk r=some q;rw[hr,e])),fun q i n hc=>?_⟩
 by_cases e9:q=b
 ·subst e9
  rw[yu _ _ _ _ _ _ hb] at hc
  have:=hn (.int .u32 n) (by simp at hc;exact Cc hc)
  simp[dA] at this
 ·rw[<-hc]
  exact Dp (w:=w) (h5 q e9)
theorem fQ {ρ:Nat->Res}:∀ (l m:List (Nat × Res)),after ρ (l++m)=after (after ρ l) m
 | [],_=>rfl
 | (r,x)::l,m=>fQ l m
theorem a8d {t:TypeId} {ps qs:List Part} {o:Nat} {p:Part} {cs vs:List Value} {F:Nat->Prop} (h:a4A P t ps o p=some qs) (hc:chunks (gZ F w) cs ps) (hv:rep F w p.t vs p.x) :
  fitsT P t p.t=true/\p.t.still=true/\o+vs.length<=cs.length/\chunks (gZ F w) (cs.take o++vs++cs.drop (o+vs.length)) qs:=by
 unfold a4A at h
 split at h<;>try(cases h;done)
 rename_i a b hd
 split at h<;>try(cases h;done)
 rename_i m c hd2
 split at h<;>try(cases h;done)
 rename_i hf
 simp only[au] at hf
 simp only[ak] at h
 obtain⟨rfl,h1⟩:=sV ps o _ _ hd
 obtain⟨rfl,h2⟩:=sV b _ _ _ hd2
 obtain⟨c1,c2,rfl,k1,k2⟩:=oC hc
 obtain⟨c3,c4,rfl,k3,k4⟩:=oC k2
 have l1:=qQ k1
 have l3:=qQ k3
 have lv:=dI _ _ _ hv
 have e1:(c1++(c3++c4)).take o=c1:=by rw[<-h1,<-l1,Ce]
 have e2:(c1++(c3++c4)).drop (o+vs.length)=c4:=by rw[<-h1,<-l1,lv,<-h2,<-l3,<-Dz,Az,Az]
 refine⟨hf.1,hf.2,by simp only[jl];omega,?_⟩
 rw[e1,e2,<-h]
 exact pU (pU k1 (GX _ _ _ hf.2 hv)) k4
theorem a0K {F:Nat->Prop} {cs:List Value} {ps:List Part} (h:chunks (gZ F w) cs ps):∀ v ∈ cs,dA v=true:=by
 have:=CB (p:=cO) (fun c p (hp:gZ F w c p)=>xR p.t hp.2 c p.x hp.1) ps cs h
 intro v hv
 have:=this v hv
 simp only[cO,au] at this
 exact this.2
theorem a8F {T:Told} {k:Operand->K} {ev:Operand->Value} {o:Oper} {vc:List Cd} {kk:K} {l:List (Nat × Res)} (h:qP P T ρ k o.dst o.op=some (vc,kk,l)) (hM:Mem E ρ W w) (hw:∀ x,(k x).wf ρ) (hk:∀ x,(k x).holds E ρ w (ev x)):dV P E ρ W w o ev kk l:=by
 cases ho:o.op<;>rw[ho] at h<;>try (simp[qP] at h;done)
 case alloc t =>
  simp only[qP] at h
  split at h<;>try(cases h;done)
  rename_i r ty hd ht
  split at h<;>try(cases h;done)
  rename_i hz
  simp only[au] at hz
  obtain⟨i,z,c,h1,h2,h3,h4,h5⟩:=yG hz.2
  split at h
  ·have h9:=h
   unfold b4q at h9
   split at h9<;>first|(cases h9;done)|skip
   rename_i ho9
   obtain⟨u,hu,hku⟩:∃ u,c=[u]/\(ZM ty).holds E ρ w u:=by
    have hr:=BP (F:=fz w E) (w:=w) ty c h3
    cases ty<;>try (simp[ZM,K.one] at ho9;done)
    case list t9 =>
     simp only[Ty.zc,ak] at h3
     exact⟨.slice none 0 0,h3.symm,rfl⟩
    all_goals
     simp only[ZM,K.one,au,dw,aj] at ho9
     have hl:=dI _ c _ hr
     rw[ho9.2] at hl
     match c,hl with
     | [u],_=>exact⟨u,rfl,[u],by unfold Ty.toV;rw[ho9.1.1];rfl,hr⟩
   subst hu
   obtain⟨E',k1,k2,k3,k4⟩:=b4r hM hz.1 (by unfold ZM;split<;>trivial) hku (fun r' ver e=>by unfold ZM at e;split at e<;>cases e) t h
   refine dV.of (by simp only[execOp,ho];rfl) ⟨.pointer (some ⟨w.heap.size,0,none⟩),_,E',?_,k1,k2,k3,k4⟩
   rw[show (#[u]:Array Value)=z.cells from by rw[<-Array.toArray_toList (xs:=z.cells),h4]]
   simp[Instr.alloc,zeroValue,typeInfo,h1,h2,newVar,newRow,jq]
  ·obtain⟨E',k1,k2,k3,k4⟩:=YE T hM hz.1 (BP ty c h3) t h
   refine dV.of (by simp only[execOp,ho];rfl) ⟨.pointer (some ⟨w.heap.size,0,none⟩),_,E',?_,k1,k2,k3,k4⟩
   rw[<-h4]
   simp[Instr.alloc,zeroValue,typeInfo,h1,h2,newVar,newRow,jq]
 case box t x =>
  simp only[qP] at h
  split at h<;>try(cases h;done)
  rename_i r p l' hd ht
  split at h<;>try(cases h;done)
  rename_i hz
  simp only[au] at hz
  obtain⟨E1,m1,m2,cs,hv,hr⟩:=mP ht hM (hw x) (hk x)
  have hl:l'=[]:=by cases l'<;>simp_all
  subst hl
  obtain⟨E',k1,k2,k3,k4⟩:=YE T m1 hz.1 hr t h
  refine dV.of (by simp only[execOp,ho];rfl) ⟨.pointer (some ⟨w.heap.size,0,none⟩),_,E',?_,k1,m2.trans k2,k3,k4⟩
  rw[hv]
  simp[Instr.box,newVar,newRow,jq,nS p.t cs p.x hr]
 case load t x =>
  simp only[qP] at h
  split at h<;>try(cases h;done)
  rename_i r off hx
  split at h<;>try(cases h;done)
  rename_i ps hr
  simp only[jw,dh] at h
  obtain⟨p,h1,_,rfl,rfl⟩:=h
  have hkx:=hk x
  rw[hx] at hkx
  obtain⟨b,hb,hp⟩:=hkx
  have hres:=hM.res r
  rw[hr] at hres
  obtain⟨b',cs,e,k1,k3,k4⟩:=hres
  rw[hb] at k1;cases k1
  obtain⟨hf,c,hc,hrep⟩:=a2t h1 k4
  have hrg:w.rangeAt b off c:=fun j v hv=>by
   rw[yu _ _ _ _ _ _ k3,<-hv]
   simp only[List.getElem?_toArray]
   rw[<-hc,List.getElem?_take,jm (by have:=(ql.1 hv).1;exact this),List.getElem?_drop]
  refine dV.of (by simp only[execOp,ho];rfl) ⟨p.t.toV c,w,E,?_,hM,Ext.refl _ _ _,trivial,c,rfl,hrep⟩
  rw[hp]
  simp only[Instr.loadAt,Instr.sureAddr,jq,Sem.run_pure,Result.andThen_ok]
  exact jJ hf hrg hrep
 case store t x y =>
  simp only[qP] at h
  split at h<;>try(cases h;done)
  rename_i r off p l' hx hy
  split at h<;>try(cases h;done)
  rename_i ps hr
  split at h<;>try(cases h;done)
  rename_i qs hs
  simp only[ak,dh] at h
  obtain⟨_,rfl,rfl⟩:=h
  have hkx:=hk x
  rw[hx] at hkx
  obtain⟨E1,m1,m2,vs,hv,hrep⟩:=mP hy hM (hw y) (hk y)
  have hr2:after ρ l' r=.box ps:=by
   cases hky:k y with
   | nil =>
    rw[hky] at hy
    simp only[vJ] at hy
    split at hy<;>first|(cases hy;done)|skip
    all_goals
     simp only[ak,dh] at hy
     rw[<-hy.2];exact hr
   | own r2 v2 =>
    rw[hky] at hy
    simp only[vJ,rP] at hy
    split at hy<;>first|(cases hy;done)|skip
    ·rename_i hr3
     split at hy<;>first|(cases hy;done)|skip
     simp only[ak,dh] at hy
     rw[<-hy.2]
     show bH ρ r2 _ r=_
     rw[aQ _ _ (fun e=>by rw[<-e,hr] at hr3;cases hr3)];exact hr
    ·split at hy<;>first|(cases hy;done)|skip
     simp only[ak,dh] at hy
     rw[<-hy.2];exact hr
    ·rename_i hr3
     split at hy<;>first|(cases hy;done)|skip
     simp only[ak,dh] at hy
     rw[<-hy.2]
     show bH ρ r2 _ r=_
     rw[aQ _ _ (fun e=>by rw[<-e,hr] at hr3;cases hr3)];exact hr
   | val t x =>
    rw[hky] at hy
    simp only[vJ,rP,ak,dh] at hy
    rw[<-hy.2];exact hr
   | mrow r2 v2 i2 =>
    rw[hky] at hy
    simp only[vJ,rP] at hy
    split at hy<;>first|(cases hy;done)|skip
    rename_i hr3
    split at hy<;>first|(cases hy;done)|skip
    simp only[ak,dh] at hy
    rw[<-hy.2]
    show bH ρ r2 _ r=_
    rw[aQ _ _ (fun e=>by rw[<-e,hr] at hr3;cases hr3)];exact hr
   | _=>rw[hky] at hy;simp[vJ,rP] at hy
  have c4Q:=m2.holds _ _ (by have:=hw x;rwa [hx] at this) hkx
  obtain⟨b,hb,hp⟩:=c4Q
  have hres:=m1.res r
  rw[hr2] at hres
  obtain⟨b',cs,e,k1,k3,k4⟩:=hres
  rw[hb] at k1;cases k1
  obtain⟨hf,hst,hle,hch⟩:=a8d hs k4 hrep
  have hg:=a4B (vs:=vs) hb k3 hle (a0K k4)
  have hI:∀ i,bI (E1.inn r i)=none:=fun i=>m1.inner r i (by rw[hr2];exact uq _)
  have hsz:=hg.size
  have hF:∀ q,fz w E1 q->fz (w.setCells b off vs) (E1.put r (some b) (E1.sl r)) q:=zG (ρ:=ρ) hsz (.inr (.inl hb.symm))
  have hx9:lT (E1.put r (some b) (E1.sl r)) (w.setCells b off vs) r (.box qs) :=
   ⟨b,_,e,by show bH E1.blk r _ r=_;rw[aG],jA b vs off w cs e k3 hle,aW (fun c p=>gZ.mono hF hg.stay) _ _ hch⟩
  obtain⟨n1,n2⟩:=m1.turn r hg (some b) (E1.sl r) (.box qs) hx9 (.inr (.inl hb.symm)) rfl (fun k e=>by cases e) (fun h=>by rw[hr2] at h;exact h.elim) (fun _=>⟨trivial,hb.symm⟩) (fun v h=>by rw[hr2] at h;exact h.elim) (fun v _ hv=>hv.elim) (fun v h=>h.elim)
  refine⟨.skip,undef,w.setCells b off vs,_,?_,.inr ⟨rfl,rfl⟩,by rw[fQ];exact n1,by rw[fQ];exact m2.trans n2,trivial,trivial⟩
  simp only[execOp,ho,jq,hp,hv,Instr.storeAt,Instr.sureAddr,Sem.run_pure,Result.andThen_ok]
  rw[yL hf hst (fun j hj=>⟨by rw[yu _ _ _ _ _ _ k3];simp;omega,by simp[World.frozen?,k3]⟩) hrep]
  rfl
 case fieldAddr s x i =>
  simp only[qP] at h
  split at h<;>try(cases h;done)
  rename_i r off hx
  split at h<;>try(cases h;done)
  rename_i ps hr
  simp only[jw,dh] at h
  obtain⟨q,h1,_,rfl,rfl⟩:=h
  have hkx:=hk x
  rw[hx] at hkx
  have hwx:=hw x
  rw[hx] at hwx
  unfold a1L at h1
  split at h1<;>first|(cases h1;done)|skip
  rename_i fs hu
  split at h1<;>first|(cases h1;done)|skip
  rename_i f hf
  split at h1<;>first|(cases h1;done)|skip
  rename_i j hj
  split at h1<;>first|(cases h1;done)|skip
  rename_i hz
  simp only[ak] at h1
  subst h1
  obtain⟨b,hb,hp⟩:=hkx
  refine dV.of (s:=Instr.fieldAt s (ev x) i) (by simp only[execOp,ho]) ⟨.pointer (some ⟨b,off+f.offset,none⟩),w,E,?_,hM,Ext.refl _ _ _,hwx,⟨b,hb,rfl⟩⟩
  simp[hp,Instr.fieldAt,jq,qo hu w,hf,Instr.sureAddr,fieldPlace,run_sizeOf hj,hz,Bc]
 case indexAddr s x i =>
  simp only[qP] at h
  split at h<;>try(cases h;done)
  rename_i r off kd n hx hi
  split at h<;>try(cases h;done)
  rename_i ps hr
  simp only[jw,dh] at h
  obtain⟨q,h1,_,rfl,rfl⟩:=h
  have hkx:=hk x
  rw[hx] at hkx
  have hki:=hk i
  rw[hi] at hki
  have hwx:=hw x
  rw[hx] at hwx
  unfold a5g at h1
  split at h1<;>first|(cases h1;done)|skip
  rename_i m e hu
  split at h1<;>first|(cases h1;done)|skip
  rename_i j k9 hj
  split at h1<;>first|(cases h1;done)|skip
  rename_i hlt
  simp only[ak] at h1
  subst h1
  obtain⟨b,hb,hp⟩:=hkx
  refine dV.of (s:=Instr.indexAt s (ev x) (ev i)) (by simp only[execOp,ho]) ⟨.pointer (some ⟨b,off+k9*j.size,none⟩),w,E,?_,hM,Ext.refl _ _ _,hwx,⟨b,hb,rfl⟩⟩
  rw[hp,jS hki]
  have h0:(0:Int)<=Int.ofNat k9:=yc _
  have h2:Int.ofNat k9<(m:Int):=by simp;omega
  simp[Instr.indexAt,asIntOf,jq,qo hu w,Instr.sureAddr,run_sizeOf hj,Bc,hlt]
end
end
end Go.Proofs.YtbkocjmmbkifjaaGreat
