/-
  Lemmas for the statements about datums, part 19 of 37.
-/
import Derived.LoopN
import Derived.Test.YtgplhbhfdgempaaGreatDb18
namespace Go.Proofs.YtgplhbhfdgempaaGreat
open Go Go.RowKit
section
set_option linter.unusedSimpArgs false
set_option linter.unusedVariables false
set_option maxRecDepth 20000
def oJ (B:Book) (ops:Array Oper) (draw:Bool) (G:Gam) (R:Rho):Option (List Prop × Gam × Rho) :=
 if draw then (match BJ B ops ops.toList G R with
  | some (vc,ss,G',R')=>if vJ .any ops&&a5B ops (Region.before ops) ss&&b2g ops (Region.before ops) then some (vc,G',R') else none
  | none=>none)
 else BH B ops ops.toList G R
def asg:Code->List Nat
 | .region _ ops _=>ops.toList.filterMap (·.dst)
 | .seq a b=>asg a++asg b
 | .cond _ a b=>asg a++asg b
 | .block _ c=>asg c
 | .loop c=>asg c
 | .scope c=>asg c
 | .rangeFunc _ ps a b=>ps.toList++asg a++asg b
 | _=>[]
def cut (l:List Nat) (G:Gam):Gam:=G.filter fun p=>!l.contains p.1
def Res.isNil:Res->Prop
 | .row _ _ xs 0=>xs=[]
 | .mat _ _ _ Option.none xss 0=>xss=[]
 | _=>False
def Res.isNil':Res->Prop
 | .none=>True
 | _=>False
def Res.MW:Res->Bool
 | .none=>true
 | .gone=>true
 | _=>false
def TL:Res->Res->Prop
 | .mat _ _ _ ids xss _,.mat _ _ _ sJ yss _=>ids=sJ/\xss.length=yss.length
 | _,_=>False
def WE (R R':Rho):List K0->List K0->Prop
 | [],[]=>True
 | .val t x::ks,.val t' y::ks'=>jS t t' x=some y/\WE R R' ks ks'
 | .ptr r o::ks,.ptr r' o'::ks'=>(r=r'/\o=o'/\(bG R r).qG/\(bG R' r).qG)/\WE R R' ks ks'
 | .oG r::ks,.oG r'::ks'=>(r=r'/\(bG R' r).IX/\((bG R' r).oO->(bG R r).oO))/\WE R R' ks ks'
 | _,_=>False
def leK (R R':Rho):K->K->Prop
 | _,.any=>True
 | .val t x,.val t' y=>jS t t' x=some y
 | .nil,.nil=>True
 | .nil,.own r 0=>(bG R r).isNil'/\(bG R' r).isNil
 | .nil,.val (.list t) ys=>(ys:List t.den)=[]
 | .ptr r o,.ptr r' o'=>r=r'/\o=o'/\(bG R r).qG/\(bG R' r).qG
 | .own r v,.own r' v'=>r=r'/\v'=0/\Res.isRow v (bG R r)/\Res.isRow 0 (bG R' r)
 | .cell r v i,.cell r' v' i'=>r=r'/\i=i'/\v'=0/\Res.isRow v (bG R r)/\Res.isRow 0 (bG R' r)/\(bG R r).esz=(bG R' r).esz
 | .mrow r v i,.mrow r' v' i'=>r=r'/\i=i'/\v'=0/\Res.pF v (bG R r)/\Res.pF 0 (bG R' r)/\TL (bG R r) (bG R' r)
 | .mpos r v i j,.mpos r' v' i' j'=>(r=r'/\i=i'/\j=j'/\v'=0/\Res.pF v (bG R r)/\Res.pF 0 (bG R' r))/\TL (bG R r) (bG R' r)/\(bG R r).msz=(bG R' r).msz
 | .oG r,.oG r'=>r=r'/\(bG R' r).IX/\((bG R' r).oO->(bG R r).oO)
 | .fn g ks,.fn g' ks'=>g=g'/\WE R R' ks ks'
 | _,_=>False
def leP:List Part->List Part->Prop
 | [],[]=>True
 | p::ps,q::qs=>jS p.t q.t p.x=some q.x/\leP ps qs
 | _,_=>False
def leM {t t':Ty} (ids sJ:Option (List Nat)) (xss:List (List t.den)) (yss:List (List t'.den)):Prop:=match ids,sJ with
 | some l,none=>l.Nodup/\jS (.list (.list t)) (.list (.list t')) (l.map fun i=>xss.getD i [])=some yss
 | _,_=>ids=sJ/\jS (.list (.list t)) (.list (.list t')) xss=some yss
def leR (R R':Rho):Res->Res->Prop
 | _,.none=>True
 | .box ps,.box qs=>leP ps qs
 | .row e t xs _,.row e' t' ys v=>e=e'/\v=0/\jS (.list t) (.list t') xs=some ys
 | .mat e _ t none xss _,.row e' t' ys v=>e=e'/\v=0/\jS (.list (.list t)) (.list t') xss=some ys
 | .fro t xs _,.fro t' ys v=>v=0/\jS (.list t) (.list t') xs=some ys
 | .none,.row _ t ys v=>(ys:List t.den)=[]/\v=0/\t.still=true
 | .mat e e2 t ids xss _,.mat e' e2' t' sJ yss v=>e=e'/\e2=e2'/\v=0/\leM ids sJ xss yss
 | .none,.mat _ _ t ids yss v=>ids=none/\(yss:List (List t.den))=[]/\v=0/\t.still=true
 | .nJ k,.nJ k'=>k'.one=true/\leK R R' k k'
 | .nJ _,.gone=>True
 | .gone,.gone=>True
 | _,_=>False
def kY:K->K
 | .own r _=>.own r 0
 | .cell r _ i=>.cell r 0 i
 | .mrow r _ i=>.mrow r 0 i
 | .mpos r _ i j=>.mpos r 0 i j
 | .when b k=>if k.res.isEmpty then .when b k else .any
 | .mix l=>if (K.mix l).res.isEmpty then .mix l else .any
 | .sng _ _=>.any
 | k=>k
theorem a5T {k:K} (h:k.res=[]):kY k=k:=by
 cases k<;>first|rfl|(simp[K.res] at h;done)|skip
 ·show (if _ then _ else _)=_;rw[eY (by simpa [K.res] using h)]
 ·show (if _ then _ else _)=_;rw[eY (by rw[h];rfl)]
theorem YQ (k:K):kY (kY k)=kY k:=by
 cases k<;>first|rfl|skip
 ·rename_i b k
  show kY (if k.res.isEmpty then .when b k else .any)=if k.res.isEmpty then .when b k else .any
  split
  ·rename_i h;show (if _ then _ else _)=_;rw[eY h]
  ·rfl
 ·rename_i l
  show kY (if (K.mix l).res.isEmpty then .mix l else .any)=if (K.mix l).res.isEmpty then .mix l else .any
  split
  ·rename_i h;show (if _ then _ else _)=_;rw[eY h]
  ·rfl
def sO (G:Gam):Gam:=G.map fun p=>(p.1,kY p.2)
theorem wB:∀ (G:Gam) (s:Nat),bZ (sO G) s=kY (bZ G s)
 | [],s=>rfl
 | (q,k)::G,s=>by
  show (if s=q then kY k else bZ (sO G) s)=kY (if s=q then k else bZ G s)
  split
  ·rfl
  ·exact wB G s
def St (B:Book) (W:World) (base:Fix) (G:Gam) (R:Rho) (a:Act) (w:World):Prop:=∃ E:Env,E.fix=base/\Mem E (bG R) W w/\Fits E (bG R) w B a (bZ G)
section
variable {B:Book} {W:World} {base:Fix}
theorem EG {l:List Nat}:∀ (G:Gam) (s:Nat),bZ (cut l G) s=bZ G s\/bZ (cut l G) s=.any
 | [],s=>.inl rfl
 | (q,k)::G,s=>by
  unfold cut
  rw[List.filter_cons]
  split
  ·simp only[bZ]
   split
   ·exact .inl rfl
   ·exact EG G s
  ·rename_i hq
   simp only[bZ]
   split
   ·rename_i e
    subst e
    right
    have hq:l.contains s=true:=by simpa using hq
    have:∀ (G:Gam),bZ (G.filter fun p=>!l.contains p.1) s=.any:=by
     intro G
     induction G with
     | nil=>rfl
     | cons p G ih =>
      rw[List.filter_cons]
      split
      ·rename_i hp
       simp only[bZ]
       split
       ·rename_i e;rw[<-e,hq] at hp;cases hp
       ·exact ih
      ·exact ih
    exact this G
   ·exact EG G s
theorem St.cut {l:List Nat} {G:Gam} {R:Rho} {a:Act} {w:World} (h:St B W base G R a w):St B W base (cut l G) R a w:=by
 obtain⟨E,h0,h1,h2⟩:=h
 refine⟨E,h0,h1,h2.size,h2.defers,fun s=>?_,fun s=>?_,h2.par⟩
 ·rcases EG (l:=l) G s with e|e
  ·rw[e];exact h2.wf s
  ·rw[e];trivial
 ·rcases EG (l:=l) G s with e|e
  ·rw[e];exact h2.holds s
  ·rw[e];trivial
theorem VJ:∀ (G:Gam) (s:Nat),bZ G s=.any\/∃ p ∈ G,p.1=s
 | [],s=>.inl rfl
 | (q,k)::G,s=>by
  simp only[bZ]
  split
  ·rename_i e;exact .inr ⟨_,jX ..,e.symm⟩
  ·rcases VJ G s with h|⟨p,h1,h2⟩
   ·exact .inl h
   ·exact .inr ⟨p,iy _ h1,h2⟩
theorem a3g:∀ (R:Rho) (s:Nat),bG R s=.none\/∃ p ∈ R,p.1=s
 | [],s=>.inl rfl
 | (q,k)::R,s=>by
  simp only[bG]
  split
  ·rename_i e;exact .inr ⟨_,jX ..,e.symm⟩
  ·rcases a3g R s with h|⟨p,h1,h2⟩
   ·exact .inl h
   ·exact .inr ⟨p,iy _ h1,h2⟩
theorem WG {F:Nat->Prop} {w:World}:∀ {ps qs:List Part} {cs:List Value},leP ps qs->chunks (jU F w) cs ps->chunks (jU F w) cs qs
 | [],[],_,_,h=>h
 | p::ps,q::qs,cs,⟨h1,h2⟩,⟨c1,c2,k1,k2,k3⟩=>by
  refine⟨c1,c2,k1,?_,WG h2 k3⟩
  obtain⟨pt,px⟩:=p
  obtain⟨qt,qx⟩:=q
  obtain⟨e,h3⟩:=fJ h1
  simp only at e
  subst e
  have h3:px=qx:=h3
  subst h3
  exact k2
 | [],_::_,_,h,_=>h.elim
 | _::_,[],_,h,_=>h.elim
def VW (E:Env) (r:Nat):Option (List Nat)->Option (List Nat)->Nat->Value
 | some l,none,i=>match l[i]? with
  | some j=>E.inn r j
  | none=>undef
 | _,_,i=>E.inn r i
def xG (E:Env) (r:Nat):Res->Res->Nat->Value
 | .mat _ _ _ ids _ _,.mat _ _ _ sJ _ _,i=>VW E r ids sJ i
 | _,_,_=>undef
def jL (E:Env) (R R':Rho):Env:=⟨fun r=>if (bG R' r).MW then none else E.blk r,fun r=>if (bG R r).isNone then .slice none 0 0 else E.sl r,E.base,fun r=>xG E r (bG R r) (bG R' r),E.rM,E.par⟩
theorem a9d {E:Env} {r:Nat} {x y:Res} {i q:Nat} (h:cZ (xG E r x y i)=some q):∃ j,cZ (E.inn r j)=some q:=by
 unfold xG at h
 split at h
 ·unfold VW at h
  split at h
  ·split at h
   ·exact⟨_,h⟩
   ·cases h
  ·exact⟨_,h⟩
 ·cases h
theorem WH {E:Env} {R R':Rho} {r j q:Nat} (h:(jL E R R').has r j q):∃ j',E.has r j' q/\(j=0↔j'=0):=by
 cases j with
 | zero =>
  have h:(if (bG R' r).MW then none else E.blk r)=some q:=h
  split at h
  ·cases h
  ·exact⟨0,h,Iff.rfl⟩
 | succ i =>
  obtain⟨j,h⟩:=a9d h
  exact⟨j+1,h,by simp⟩
theorem b1R {t t':Ty} {ids sJ:Option (List Nat)} {xss:List (List t.den)} {yss:List (List t'.den)} (h:leM ids sJ xss yss) (hn:∀ l,ids=some l->sJ≠none):ids=sJ/\jS (.list (.list t)) (.list (.list t')) xss=some yss:=by
 unfold leM at h
 split at h
 ·exact absurd rfl (hn _ rfl)
 ·exact h
theorem a9e {E:Env} {r:Nat} {R R':Rho} {x y:Res} {i i' q:Nat} (hE:∀ a c,cZ (E.inn r a)=some q->cZ (E.inn r c)=some q->a=c) (h:leR R R' x y) (e1:cZ (xG E r x y i)=some q) (e2:cZ (xG E r x y i')=some q):i=i':=by
 cases x<;>first|(cases y<;>cases e1;done)|skip
 cases y<;>first|(cases e1;done)|skip
 rename_i e0 e02 t0 a8Z xss v0 el el2 t ids yss v
 by_cases hn:∃ l,a8Z=some l/\ids=none
 ·obtain⟨l,rfl,rfl⟩:=hn
  have hnd:l.Nodup:=h.2.2.2.1
  simp only[xG,VW] at e1 e2
  split at e1<;>first|(cases e1;done)|skip
  rename_i a ha
  split at e2<;>first|(cases e2;done)|skip
  rename_i c hc
  have hac:=hE a c e1 e2
  subst hac
  obtain⟨i1,i2⟩:=jr.1 ha
  obtain⟨i3,i4⟩:=jr.1 hc
  rcases Nat.lt_trichotomy i i' with hl|hl|hl
  ·exact absurd (i2.trans i4.symm) (List.pairwise_iff_getElem.1 hnd i i' i1 i3 hl)
  ·exact hl
  ·exact absurd (i4.trans i2.symm) (List.pairwise_iff_getElem.1 hnd i' i i3 i1 hl)
 ·have hin:∀ i,xG E r (.mat e0 e02 t0 a8Z xss v0) (.mat el el2 t ids yss v) i=E.inn r i:=fun i=>by
   cases a8Z with
   | none=>rfl
   | some l=>cases ids with
    | none=>exact absurd ⟨l,rfl,rfl⟩ hn
    | some l'=>rfl
  rw[hin] at e1 e2
  exact hE i i' e1 e2
theorem a5p {E:Env} {R R':Rho} {w:World} (hF:∀ b,fz w E b->fz w (jL E R R') b) {k k':K} {v:Value} (hl:leK R R' k k') (hw:k.wf (bG R)) (hk:k.holds E (bG R) w v):k'.wf (bG R')/\k'.holds (jL E R R') (bG R') w v:=by
 have hsl:∀ r,(bG R r).isNone=false->(jL E R R').sl r=E.sl r:=fun r hn=>by
  show (if (bG R r).isNone then _ else _)=_;rw[hn];rfl
 have hblk:∀ r,(bG R' r).MW=false->(jL E R R').blk r=E.blk r:=fun r hn=>by
  show (if (bG R' r).MW then none else E.blk r)=_;rw[hn];rfl
 have hrn:∀ v r,Res.isRow v (bG R r)->(bG R r).isNone=false:=fun v r h=>by
  cases e3:bG R r<;>rw[e3] at h<;>first|exact h.elim|rfl
 have b7C:∀ r,Res.isRow 0 (bG R' r)->Res.fU 0 (bG R' r):=fun r h=>by
  cases e3:bG R' r<;>rw[e3] at h<;>first|exact h.elim|exact pq _
 have b6t:∀ r,Res.pF 0 (bG R' r)->Res.fU 0 (bG R' r):=fun r h=>by
  cases e3:bG R' r<;>rw[e3] at h<;>first|exact h.elim|exact pq _
 have hcnt:∀ r,TL (bG R r) (bG R' r)->(bG R r).cnt=(bG R' r).cnt/\(jL E R R').inn r=E.inn r:=fun r h=>by
  have:(jL E R R').inn r=xG E r (bG R r) (bG R' r):=rfl
  rw[this]
  cases e3:bG R r<;>rw[e3] at h<;>first|exact h.elim|skip
  cases e4:bG R' r<;>rw[e4] at h<;>first|exact h.elim|skip
  obtain⟨h1,h2⟩:=h
  subst h1
  refine⟨h2,?_⟩
  funext i
  rename_i ids _ _ _ _ _ _ _
  cases ids<;>rfl
 cases k' with
 | any=>exact⟨trivial,trivial⟩
 | val t y =>
  cases k<;>first|exact hl.elim|skip
  ·obtain⟨rfl,rfl⟩:=fJ hl
   exact⟨trivial,iF hF (kQ.refl _ _) hk⟩
  ·cases t<;>first|exact hl.elim|skip
   have hl:y=[]:=hl
   subst hl
   exact⟨trivial,[.slice none 0 0],hk,none,0,rfl,by simp,by omega,.inl rfl⟩
 | nil=>cases k<;>first|exact hl.elim|exact⟨trivial,hk⟩
 | ptr r o =>
  cases k<;>first|exact hl.elim|skip
  obtain⟨rfl,rfl,j1,j2⟩:=hl
  obtain⟨b,n1,n2⟩:=hk
  refine⟨j2,b,?_,n2⟩
  rw[hblk _ (by cases e3:bG R' _<;>rw[e3] at j2<;>first|exact j2.elim|rfl)];exact n1
 | own r v =>
  cases v with
  | succ n =>
   cases k<;>first|exact hl.elim|skip
   obtain⟨_,j2,_⟩:=hl
   cases j2
  | zero =>
   cases k<;>first|exact hl.elim|skip
   ·obtain⟨j1,j2⟩:=hl
    refine⟨?_,fun _=>?_⟩
    ·show Res.fU 0 (bG R' r)
     cases e3:bG R' r<;>rw[e3] at j2<;>first|exact j2.elim|exact pq _
    ·have:(jL E R R').sl r=.slice none 0 0:=by
      show (if (bG R r).isNone then _ else _)=_
      cases e3:bG R r<;>rw[e3] at j1<;>first|exact j1.elim|rfl
     rw[this];exact hk
   ·obtain⟨rfl,_,j1,j2⟩:=hl
    exact⟨b7C _ j2,fun _=>by rw[hsl _ (hrn _ _ j1)];exact hk j1⟩
 | cell r v i =>
  cases k<;>first|exact hl.elim|skip
  obtain⟨rfl,rfl,rfl,j1,j2,j3⟩:=hl
  refine⟨b7C _ j2,fun _=>?_⟩
  rw[hsl _ (hrn _ _ j1),<-j3]
  exact hk j1
 | mrow r v i =>
  cases k<;>first|exact hl.elim|skip
  obtain⟨rfl,rfl,rfl,j1,j2,j3⟩:=hl
  obtain⟨c1,c2⟩:=hcnt _ j3
  refine⟨⟨b6t _ j2,fun _=>?_⟩,fun _=>?_⟩
  ·rw[<-c1];exact hw.2 j1
  ·rw[c2];exact hk j1
 | mpos r v i j =>
  cases k<;>first|exact hl.elim|skip
  obtain⟨⟨rfl,rfl,rfl,rfl,j1,j2⟩,j3,j4⟩:=hl
  obtain⟨c1,c2⟩:=hcnt _ j3
  refine⟨⟨b6t _ j2,fun _=>?_⟩,fun _=>?_⟩
  ·rw[<-c1];exact hw.2 j1
  ·rw[c2,<-j4];exact hk j1
 | oG r =>
  cases k<;>first|exact hl.elim|skip
  obtain⟨rfl,j1,j2⟩:=hl
  refine⟨j1,fun hb=>?_⟩
  rw[hblk _ (by cases e3:bG R' _<;>rw[e3] at hb<;>first|exact hb.elim|rfl)]
  exact hk (j2 hb)
 | when b k=>cases k<;>exact(by cases ‹K›<;>exact hl.elim)
 | tup ts x=>cases k<;>exact hl.elim
 | mix ks=>cases k<;>exact hl.elim
 | sng r v=>cases k<;>exact hl.elim
 | fn g ks' =>
  cases k<;>first|exact hl.elim|skip
  rename_i ks
  obtain⟨rfl,hl⟩:=hl
  obtain⟨vs,rfl,hk⟩:=hk
  have:∀ (ks ks':List K0) (vs:List Value),WE R R' ks ks'->qE (fz w E) E (bG R) w ks vs->(∀ k ∈ ks',SB (bG R') k)/\qE (fz w (jL E R R')) (jL E R R') (bG R') w ks' vs:=by
   intro ks
   induction ks with
   | nil =>
    intro ks' vs hl hk
    cases ks' with
    | nil=>exact⟨fun k h=>(by cases h),hk⟩
    | cons _ _=>exact hl.elim
   | cons k ks ih =>
    intro ks' vs hl ⟨v,vs',e1,e2,e3⟩
    cases ks' with
    | nil=>cases k<;>exact hl.elim
    | cons k' ks' =>
     have key:WE R R' ks ks'->SB (bG R') k'->a7k (fz w (jL E R R')) (jL E R R') (bG R') w k' v->(∀ k ∈ k'::ks',SB (bG R') k)/\qE (fz w (jL E R R')) (jL E R R') (bG R') w (k'::ks') vs:=fun h1 h2 h3=>by
      obtain⟨i1,i2⟩:=ih ks' vs' h1 e3
      refine⟨fun k hk=>?_,v,vs',e1,h3,i2⟩
      rcases oq.1 hk with rfl|hk
      ·exact h2
      ·exact i1 k hk
     cases k<;>cases k'<;>first|exact hl.elim|skip
     ·obtain⟨h1,h2⟩:=hl
      obtain⟨rfl,rfl⟩:=fJ h1
      exact key h2 trivial (iF hF (kQ.refl _ _) e2)
     ·obtain⟨⟨rfl,rfl,j1,j2⟩,h2⟩:=hl
      obtain⟨b,n1,n2⟩:=e2
      exact key h2 j2 ⟨b,by rw[hblk _ (by cases e3:bG R' _<;>rw[e3] at j2<;>first|exact j2.elim|rfl)];exact n1,n2⟩
     ·obtain⟨⟨rfl,j1,j2⟩,h2⟩:=hl
      exact key h2 j1 (fun hb=>by
       rw[hblk _ (by cases e3:bG R' _<;>rw[e3] at hb<;>first|exact hb.elim|rfl)]
       exact e2 (j2 hb))
  obtain⟨q1,q2⟩:=this ks ks' vs hl hk
  exact⟨q1,vs,rfl,q2⟩
theorem c3y {G G':Gam} {R R':Rho} {a:Act} {w:World} (h:St B W base G R a w) (hk:∀ s,leK R R' (bZ G s) (bZ G' s)\/(bZ G' s=bZ G s/\(bZ G s).res=[])) (hr:∀ r,leR R R' (bG R r) (bG R' r)):St B W base G' R' a w:=by
 obtain⟨E,h0,h1,h2⟩:=h
 have hF:∀ q,fz w E q->fz w (jL E R R') q:=fun q hq=>vX hq.1.1 hq.1.2 (fun r j e=>by
  obtain⟨j',e',_⟩:=WH e
  exact uQ hq r j' e')
 have hs:=kQ.refl (fz w E) w
 have a8V:∀ (ks:List K0) (vs:List Value),(∀ k ∈ ks,WA k=[])->qE (fz w E) E (bG R) w ks vs->qE (fz w (jL E R R')) (jL E R R') (bG R') w ks vs:=by
  intro ks
  induction ks with
  | nil=>intro vs _ h;exact h
  | cons k ks ih =>
   intro vs hk ⟨v,vs',e1,e2,e3⟩
   refine⟨v,vs',e1,?_,ih vs' (fun k hk'=>hk k (iy _ hk')) e3⟩
   have h0:=hk k (jX ..)
   cases k with
   | val t x=>exact iF hF hs e2
   | _=>simp[WA] at h0
 have hsl:∀ r,(bG R r).isNone=false->(jL E R R').sl r=E.sl r:=fun r hn=>by
  show (if (bG R r).isNone then _ else _)=_;rw[hn];rfl
 have hblk:∀ r,(bG R' r).MW=false->(jL E R R').blk r=E.blk r:=fun r hn=>by
  show (if (bG R' r).MW then none else E.blk r)=_;rw[hn];rfl
 have c3g:∀ r,(bG R' r).MW=true->(jL E R R').blk r=none:=fun r hn=>by
  show (if (bG R' r).MW then none else E.blk r)=_;rw[hn];rfl
 have EI:∀ r i,(jL E R R').inn r i=xG E r (bG R r) (bG R' r) i:=fun _ _=>rfl
 have hnil:∀ r,oM E w r Res.none->(jL E R R').sl r=.slice none 0 0->(bG R' r).MW=false->(jL E R R').blk r=cZ ((jL E R R').sl r):=fun r k2 hsl hn=>by
  rw[hblk r hn,hsl];exact k2
 have hres:∀ r,oM (jL E R R') w r (bG R' r):=fun r=>by
  have k2:=h1.res r
  have k1:=hr r
  cases e':bG R' r with
  | none=>exact c3g r (by rw[e'];rfl)
  | gone=>exact c3g r (by rw[e'];rfl)
  | nJ k=>trivial
  | box qs =>
   rw[e'] at k1
   cases e:bG R r<;>rw[e] at k1<;>first|exact k1.elim|skip
   rw[e] at k2
   obtain⟨b,cs,el,j1,j3,j4⟩:=k2
   exact⟨b,cs,el,(hblk r (by rw[e'];rfl)).trans j1,j3,WG k1 (bJ (fun c p=>jU.mono hF hs) _ _ j4)⟩
  | row el t ys v =>
   rw[e'] at k1
   cases e:bG R r<;>rw[e] at k1<;>first|exact k1.elim|skip
   ·rw[e] at k2
    obtain⟨j1,j2,j3⟩:=k1
    have hsl:(jL E R R').sl r=.slice none 0 0:=by show (if (bG R r).isNone then _ else _)=_;rw[e];rfl
    refine⟨hnil r k2 hsl (by rw[e'];rfl),j3,[],?_,?_,?_⟩
    ·rw[hsl,j1];exact zf w _ _ _
    ·rw[j1];exact rfl
    ·exact⟨by rw[hsl];exact fun g hg=>(by cases hg),by rw[j2];exact a5w _⟩
   ·rename_i el0 t0 xs v0
    rw[e] at k2
    obtain⟨j1,j2,j3⟩:=k1
    subst j1
    obtain⟨ee,j3⟩:=fJ j3
    simp only[Ty.list.injEq] at ee
    subst ee
    have j3:xs=ys:=j3
    subst j3
    obtain⟨n1,n2,cs,n3,n4,n5⟩:=k2
    have hsl:=hsl r (by rw[e];rfl)
    exact⟨by rw[hblk r (by rw[e'];rfl),hsl];exact n1,n2,cs,by rw[hsl];exact n3,bJ (fun c y=>dJ hF hs t0 c y) _ _ n4,by rw[hsl];exact n5.1,by rw[j2];exact a5w _⟩
   ·rename_i el0 el2 t0 ids xss v0
    cases ids<;>first|exact k1.elim|skip
    rw[e] at k2
    obtain⟨j1,j2,j3⟩:=k1
    subst j1
    obtain⟨ee,j3⟩:=fJ j3
    simp only[Ty.list.injEq] at ee
    subst ee
    have j3:xss=ys:=j3
    subst j3
    obtain⟨n1,n2,⟨cs,n3,n4,n5⟩,n6,n7,n8⟩:=k2
    have hsl:=hsl r (by rw[e];rfl)
    have hlen:(aX (α:=List t0.den) none xss).length=List.length (α:=(Ty.list t0).den) xss:=by simp only[aX,gJ];rfl
    rw[hlen] at n3
    have hfz:∀ j g,E.has r (j+1) g->fz w (jL E R R') g:=fun j g hh=>by
     refine vX (h1.lt hh) (h1.base _ (h1.mine r (j+1) g hh)) (fun r' j' e9=>?_)
     obtain⟨j2,e8,e7⟩:=WH e9
     obtain⟨rfl,rfl⟩:=h1.inj _ _ _ _ _ e8 hh
     cases j' with
     | zero=>have:=e7.1 rfl;omega
     | succ i =>
      have e9:cZ (xG E r' (bG R r') (bG R' r') i)=some g:=e9
      rw[e,e'] at e9
      cases e9
    have hrow:∀ i xs,xss[i]?=some xs->rep (fz w (jL E R R')) w (.list t0) [E.inn r i] xs:=fun i xs hi=>by
     obtain⟨ds,q1,q2,q3⟩:=n8 i xs hi
     obtain⟨cs9,e9,r9⟩:=mP (E:=E) (F:=fz w (jL E R R')) q1 (bJ (fun c y=>dJ hF hs t0 c y) _ _ q2) (fun g hg=>hfz i g hg)
     have r8:=r9
     obtain⟨p9,c9,e8,_⟩:=r9
     have e7:cs9=[E.inn r i]:=by
      have:E.inn r i=cs9.headD undef:=e9
      rw[this,e8];rfl
     rw[<-e7];exact r8
    refine⟨by rw[hblk r (by rw[e'];rfl),hsl];exact n1,rfl,cs,by rw[hsl];exact n3,?_,by rw[hsl];exact n5,by rw[j2];exact a5w _⟩
    rw[n4]
    show chunks _ ((List.range xss.length).map (E.inn r)) xss
    exact wZ _ _ hrow
  | fro t ys v =>
   rw[e'] at k1
   cases e:bG R r<;>rw[e] at k1<;>first|exact k1.elim|skip
   rename_i t0 xs v0
   rw[e] at k2
   obtain⟨j2,j3⟩:=k1
   obtain⟨ee,j3⟩:=fJ j3
   simp only[Ty.list.injEq] at ee
   subst ee
   have j3:xs=ys:=j3
   subst j3
   exact⟨(hblk r (by rw[e'];rfl)).trans k2.1,by rw[hsl r (by rw[e];rfl)];exact iF hF hs k2.2⟩
  | mat el el2 t ids yss v =>
   rw[e'] at k1
   cases e:bG R r<;>rw[e] at k1<;>first|exact k1.elim|skip
   ·rw[e] at k2
    obtain⟨rfl,j1,j2,j3⟩:=k1
    have hsl:(jL E R R').sl r=.slice none 0 0:=by show (if (bG R r).isNone then _ else _)=_;rw[e];rfl
    have hin:∀ i,cZ ((jL E R R').inn r i)=none:=fun i=>by rw[EI,e,e'];rfl
    subst j1
    refine⟨hnil r k2 hsl (by rw[e'];rfl),j3,⟨[],?_,rfl,?_⟩,fun i hi=>?_,fun i _=>hin i,fun i xs hi=>?_⟩
    ·rw[hsl];exact zf w _ _ _
    ·rw[hsl];intro g hg;cases hg
    ·simp[aX] at hi
    ·simp at hi
   ·rename_i el0 c5B t0 a8Z xss v0
    rw[e] at k2
    obtain⟨j1,j2,j3,j4⟩:=k1
    subst j1 j2
    obtain⟨n1,n2,⟨cs,n3,n4,n5⟩,n6,n7,n8⟩:=k2
    have hsl:=hsl r (by rw[e];rfl)
    have hbl:=hblk r (by rw[e'];rfl)
    by_cases hn:∃ l,a8Z=some l/\ids=none
    ·obtain⟨l,rfl,rfl⟩:=hn
     obtain⟨j4,j5⟩:=j4
     obtain⟨ee,j5⟩:=fJ j5
     simp only[Ty.list.injEq] at ee
     subst ee
     have j5:(l.map fun i=>xss.getD i [])=yss:=j5
     have hlen:yss.length=l.length:=by rw[<-j5];simp
     have hin:∀ i j,l[i]?=some j->(jL E R R').inn r i=E.inn r j:=fun i j hi=>by rw[EI,e,e'];simp only[xG,VW,hi]
     have hin0:∀ i,l[i]?=none->cZ ((jL E R R').inn r i)=none:=fun i hi=>by rw[EI,e,e'];simp only[xG,VW,hi];rfl
     refine⟨by rw[hbl,hsl];exact n1,n2,⟨cs,?_,?_,by rw[hsl];exact n5⟩,fun i hi=>by simpa [aX] using hi,fun i hi=>hin0 i (qQ (by omega)),fun i xs hi=>?_⟩
     ·rw[hsl]
      have:(aX (none:Option (List Nat)) yss).length=(aX (some l) xss).length:=by simp[aX,hlen]
      rw[this];exact n3
     ·rw[n4]
      simp only[aX]
      apply List.ext_getElem?
      intro i
      rw[uz,uz,hlen]
      by_cases hi:i<l.length
      ·rw[List.getElem?_range hi,dn hi]
       simp only[Option.map_some]
       rw[hin i l[i] (dn hi)]
      ·rw[qQ (by simpa using hi),qQ (l:=List.range l.length) (by simpa using hi)]
       rfl
     ·rw[<-j5,uz] at hi
      cases hj:l[i]? with
      | none=>rw[hj] at hi;cases hi
      | some j =>
       rw[hj] at hi
       simp only[Option.map_some,ah] at hi
       have hjl:j<xss.length:=n6 j (by simp only[aX];exact Aa hj)
       obtain⟨ds,q1,q2,q3⟩:=n8 j xs (by rw[<-hi,ay,dn hjl];rfl)
       exact⟨ds,by rw[hin i j hj];exact q1,bJ (fun c y=>dJ hF hs t0 c y) _ _ q2,by rw[hin i j hj];exact q3⟩
    ·obtain⟨j4,j5⟩:=b1R j4 (fun l e1 e2=>hn ⟨l,e1,e2⟩)
     subst j4
     obtain⟨ee,j5⟩:=fJ j5
     simp only[Ty.list.injEq] at ee
     subst ee
     have j5:xss=yss:=j5
     subst j5
     have hin:(jL E R R').inn r=E.inn r:=by
      funext i
      rw[EI,e,e']
      cases a8Z<;>rfl
     exact⟨by rw[hbl,hsl];exact n1,n2,⟨cs,by rw[hsl];exact n3,by rw[hin];exact n4,by rw[hsl];exact n5⟩,n6,by rw[hin];exact n7,fun i xs hi=>by
      obtain⟨ds,q1,q2,q3⟩:=n8 i xs hi
      exact⟨ds,by rw[hin];exact q1,bJ (fun c y=>dJ hF hs t0 c y) _ _ q2,by rw[hin];exact q3⟩⟩
 refine⟨jL E R R',h0,⟨h1.below,hres,fun r j r' j' q e1 e2=>?_,fun r j b e=>?_,h1.base,fun r i hi=>?_,fun r k e'=>?_,h1.dig⟩,h2.size,h2.defers,fun s=>?_,fun s=>?_,h2.par⟩
 ·obtain⟨i,f1,g1⟩:=WH e1
  obtain⟨i',f2,g2⟩:=WH e2
  obtain⟨rfl,rfl⟩:=h1.inj _ _ _ _ _ f1 f2
  refine⟨rfl,?_⟩
  cases j with
  | zero=>cases j' with
   | zero=>rfl
   | succ j'=>exact absurd (g2.2 (g1.1 rfl)) (by simp)
  | succ j=>cases j' with
   | zero=>exact absurd (g1.2 (g2.1 rfl)) (by simp)
   | succ j' =>
    have e1:cZ (xG E r (bG R r) (bG R' r) j)=some q:=e1
    have e2:cZ (xG E r (bG R r) (bG R' r) j')=some q:=e2
    rw[a9e (fun a c ha hc=>by have:=(h1.inj r (a+1) r (c+1) q ha hc).2;omega) (hr r) e1 e2]
 ·obtain⟨j',e',_⟩:=WH e
  exact h1.mine r j' b e'
 ·have k1:=hres r
  cases e':bG R' r with
  | mat el el2 t ids yss v =>
   rw[e'] at k1 hi
   exact k1.2.2.2.2.1 i hi
  | _=>rw[EI,e'];cases bG R r<;>rfl
 ·have k1:=hr r
  rw[e'] at k1
  cases e:bG R r<;>rw[e] at k1<;>first|exact k1.elim|skip
  obtain⟨o1,o2⟩:=k1
  obtain⟨q1,q2,b,v,t,q3,q4,q5,q6⟩:=h1.kbx r _ e
  obtain⟨p1,p2⟩:=a5p hF o2 q1 q6
  exact⟨p1,o1,b,v,t,(hblk r (by rw[e'];rfl)).trans q3,q4,q5,p2⟩
 all_goals rcases hk s with k1|⟨keq,WB⟩
 ·exact(a5p hF k1 (h2.wf s) (h2.holds s)).1
 rotate_left
 ·exact(a5p hF k1 (h2.wf s) (h2.holds s)).2
 rotate_left
 all_goals
  rw[keq]
  have hw:=h2.wf s
  have k2:=h2.holds s
  revert hw WB k2
  generalize bZ G s=k9
  intro WB hw k2
 ·clear k2
  induction k9 with
  | when b k ih=>exact fun hb=>ih WB (hw hb)
  | mix ks =>
   intro k hk
   cases k with
   | val t x=>trivial
   | own r v =>
    have:r ∈ (K.mix ks).res:=xq.2 ⟨_,hk,lN.2 rfl⟩
    rw[WB] at this;cases this
   | _=>exact(by
    have:_ ∈ (K.mix ks).res:=xq.2 ⟨_,hk,lN.2 rfl⟩
    rw[WB] at this;cases this)
  | fn g ks =>
   intro k hk
   cases k with
   | val t x=>trivial
   | _=>exact(by
    have:_ ∈ (K.fn g ks).res:=xq.2 ⟨_,hk,lN.2 rfl⟩
    rw[WB] at this;cases this)
  | _=>first|trivial|(simp[K.res] at WB;done)
 ·induction k9 with
  | any=>trivial
  | val t y=>exact iF hF hs k2
  | nil=>exact k2
  | tup ts y=>obtain⟨vs,j1,j2⟩:=k2;exact⟨vs,j1,lV hF hs ts vs y j2⟩
  | when b k ih=>exact⟨fun hb=>ih WB (hw hb) (k2.1 hb),k2.2⟩
  | mix ks =>
   obtain⟨vs,j1,j2⟩:=k2
   refine⟨vs,j1,?_⟩
   exact a8V ks vs (fun k hk=>by
    cases hkr:WA k with
    | nil=>rfl
    | cons r l =>
     have:r ∈ (K.mix ks).res:=xq.2 ⟨k,hk,by rw[hkr];exact jX ..⟩
     rw[WB] at this;cases this) j2
  | fn g ks =>
   obtain⟨vs,j1,j2⟩:=k2
   exact⟨vs,j1,a8V ks vs (fun k hk=>by
    cases hkr:WA k with
    | nil=>rfl
    | cons r l =>
     have:r ∈ (K.fn g ks).res:=xq.2 ⟨k,hk,by rw[hkr];exact jX ..⟩
     rw[WB] at this;cases this) j2⟩
  | _=>simp[K.res] at WB
def Post (B:Book) (W:World) (base:Fix) (Q:Exit->Gam->Rho->Prop) (e:Exit) (a:Act) (w:World):Prop:=∃ G R,Q e G R/\St B W base G R a w
theorem a2f (hB:B.Ok) (hm:B.P.follows .mixedOrders=true) {id:Nat} {ops:Array Oper} {draw:Bool} {G:Gam} {R:Rho} {vc:List Prop} {G':Gam} {R':Rho} {Q:Exit->Gam->Rho->Prop} {a:Act} {w:World}
  (h:oJ B ops draw G R=some (vc,G',R')) (hv:aW vc) (hq:Q .normal G' R') (hs:St B W base G R a w):(Code.region id ops draw).wp B.P (Post B W base Q) a w:=by
 obtain⟨E,h0,h1,h2⟩:=hs
 unfold oJ at h
 cases draw with
 | true =>
  simp only[Ai] at h
  split at h<;>try(cases h;done)
  rename_i vc1 ss G1 R1 b7z
  split at h<;>try(cases h;done)
  rename_i hb
  simp only[ak] at hb
  simp only[ah,bI] at h
  obtain⟨rfl,rfl,rfl⟩:=h
  exact a8x hB hm b7z hb.1.1 hb.1.2 hb.2 hv h1 h2 (fun E' a' w' m0 m1 m2=>⟨_,_,hq,E',m0.trans h0,m1,m2⟩)
 | false =>
  simp only[ug,if_false] at h
  exact wp_region_list (a0v hB h hv h1 h2 (fun E' a' w' m0 m1 m2=>⟨_,_,hq,E',m0.trans h0,m1,m2⟩))
theorem a0q {c:Code} {ι:Type} (I:ι->Act->World->Prop) (m:ι->Nat) {Q:Exit->Act->World->Prop} (h:∀ i a w,I i a w->c.wp B.P (Exit.then (fun a' w'=>∃ i',m i'<m i/\I i' a' w') Q) a w):∀ n i a w,m i<n->I i a w->Code.rounds B.P c Q n a w
 | 0,i,a,w,hn,hi=>by omega
 | n+1,i,a,w,hn,hi=>by
  rw[rounds_succ]
  refine wp_mono (h i a w hi) (fun e a' w' hq=>?_)
  cases e with
  | normal =>
   obtain⟨i',h1,h2⟩:=hq
   exact a0q I m h n i' a' w' (by omega) h2
  | _=>exact hq
def leL (G:Gam) (R:Rho) (S:Gam) (Z:Rho) (l:List Nat):List Prop :=
 S.map (fun p=>leK R Z (bZ G p.1) p.2)++(cut (S.map (·.1)++l) G).flatMap (fun p=>if (bZ G p.1).res.isEmpty then [] else [leK R Z (bZ G p.1) (kY (bZ G p.1))])++Z.map (fun p=>leR R Z (bG R p.1) p.2)
theorem VI:∀ (S G:Gam) (s:Nat),(∃ p ∈ S,p.1=s/\bZ (S++G) s=bZ S s)\/((∀ p ∈ S,p.1≠s)/\bZ (S++G) s=bZ G s)
 | [],G,s=>.inr ⟨fun p hp=>(by cases hp),rfl⟩
 | (q,k)::S,G,s=>by
  simp only[List.cons_append,bZ]
  by_cases e:s=q
  ·left
   exact⟨(q,k),jX ..,e.symm,by rw[eY e,eY e]⟩
  ·rw[dw e,dw e]
   rcases VI S G s with⟨p,h1,h2,h3⟩|⟨h1,h2⟩
   ·exact .inl ⟨p,iy _ h1,h2,h3⟩
   ·refine .inr ⟨fun p hp=>?_,h2⟩
    rcases oq.1 hp with rfl|hp
    ·exact fun e'=>e e'.symm
    ·exact h1 p hp
theorem zY:∀ {S:Gam} {s:Nat},(∃ p ∈ S,p.1=s)->∃ p ∈ S,p.1=s/\bZ S s=p.2
 | (q,k)::S,s,⟨p,hp,he⟩=>by
  simp only[bZ]
  by_cases e:s=q
  ·exact⟨(q,k),jX ..,e.symm,by rw[eY e]⟩
  ·rw[dw e]
   rcases oq.1 hp with rfl|hp
   ·exact absurd he.symm e
   ·obtain⟨p',h1,h2,h3⟩:=zY ⟨p,hp,he⟩
    exact⟨p',iy _ h1,h2,h3⟩
 | [],s,⟨p,hp,_⟩=>by cases hp
theorem VL:∀ {S:Rho} {s:Nat},(∃ p ∈ S,p.1=s)->∃ p ∈ S,p.1=s/\bG S s=p.2
 | (q,k)::S,s,⟨p,hp,he⟩=>by
  simp only[bG]
  by_cases e:s=q
  ·exact⟨(q,k),jX ..,e.symm,by rw[eY e]⟩
  ·rw[dw e]
   rcases oq.1 hp with rfl|hp
   ·exact absurd he.symm e
   ·obtain⟨p',h1,h2,h3⟩:=VL ⟨p,hp,he⟩
    exact⟨p',iy _ h1,h2,h3⟩
 | [],s,⟨p,hp,_⟩=>by cases hp
theorem a5q {G:Gam} {R:Rho} {S:Gam} {Z:Rho} {l:List Nat} {a:Act} {w:World} (h:St B W base G R a w) (hl:aW (leL G R S Z l)):St B W base (S++sO (cut (S.map (·.1)++l) G)) Z a w:=by
 obtain⟨h12,h3⟩:=dF.1 hl
 obtain⟨h1,h2⟩:=dF.1 h12
 have hRr:∀ r,leR R Z (bG R r) (bG Z r):=fun r=>by
  rcases a3g Z r with e|hm
  ·rw[e];cases bG R r<;>trivial
  ·obtain⟨p',j1,rfl,j3⟩:=VL hm
   rw[j3]
   exact TS h3 (ni.2 ⟨p',j1,rfl⟩)
 refine c3y h (fun s=>?_) hRr
 rcases VI S (sO (cut (S.map (·.1)++l) G)) s with⟨p,k1,k2,k3⟩|⟨k1,k2⟩
 ·left
  rw[k3]
  obtain⟨p',j1,rfl,j3⟩:=zY ⟨p,k1,k2⟩
  rw[j3]
  exact TS h1 (ni.2 ⟨p',j1,rfl⟩)
 ·rw[k2,wB]
  rcases EG (l:=S.map (·.1)++l) G s with e|e
  ·rcases VJ (cut (S.map (·.1)++l) G) s with e2|hm
   ·left;rw[e2];cases bZ G s<;>trivial
   ·obtain⟨p',j1,rfl,j3⟩:=zY hm
    by_cases hc:(bZ G p'.1).res.isEmpty=true
    ·right
     have h0:(bZ G p'.1).res=[]:=List.isEmpty_iff.1 hc
     rw[e]
     exact⟨a5T h0,h0⟩
    ·left
     rw[e]
     exact TS h2 (xq.2 ⟨p',j1,by rw[dw hc];exact lN.2 rfl⟩)
  ·left;rw[e];cases bZ G s<;>trivial
theorem St.congr {G G':Gam} {R:Rho} {a:Act} {w:World} (h:St B W base G R a w) (hg:∀ s,bZ G' s=bZ G s):St B W base G' R a w:=by
 obtain⟨E,h0,h1,h2⟩:=h
 exact⟨E,h0,h1,h2.size,h2.defers,fun s=>by rw[hg];exact h2.wf s,fun s=>by rw[hg];exact h2.holds s,h2.par⟩
end
end
end Go.Proofs.YtgplhbhfdgempaaGreat
