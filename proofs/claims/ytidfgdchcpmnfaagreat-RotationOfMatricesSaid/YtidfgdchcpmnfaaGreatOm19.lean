/-
  Lemmas for the theorem vofmatrices_holds, part 19 of 32.
-/
import Derived.LoopN
import Derived.Test.YtidfgdchcpmnfaaGreatOm18
namespace Go.Proofs.YtidfgdchcpmnfaaGreat
open Go Go.RowKit
set_option linter.unusedSimpArgs false
set_option linter.unusedVariables false
set_option maxRecDepth 20000
def rM (B:Book) (ops:Array Oper) (draw:Bool) (G:Gam) (R:Rho):Option (List Prop × Gam × Rho) :=
 if draw then (match wQ B ops ops.toList G R with
  | some (vc,ss,G',R')=>if lG .any ops&&a2B ops (Region.before ops) ss&&a8q ops (Region.before ops) then some (vc,G',R') else none
  | none=>none)
 else zL B ops ops.toList G R
def asg:Code->List Nat
 | .region _ ops _=>ops.toList.filterMap (·.dst)
 | .seq a b=>asg a++asg b
 | .cond _ a b=>asg a++asg b
 | .block _ c=>asg c
 | .loop c=>asg c
 | .scope c=>asg c
 | .rangeFunc _ ps a b=>ps.toList++asg a++asg b
 | _=>[]
def cut (l:List Nat) (G:Gam):Gam:=G.filter fun p=>!l.contains p.1
def Res.isNil:Res->Prop
 | .row _ _ xs 0=>xs=[]
 | .mat _ _ _ Option.none xss 0=>xss=[]
 | _=>False
def Res.isNil':Res->Prop
 | .none=>True
 | _=>False
def Res.EX:Res->Bool
 | .none=>true
 | .gone=>true
 | _=>false
def MF:Res->Res->Prop
 | .mat _ _ _ ids xss _,.mat _ _ _ oO yss _=>ids=oO/\xss.length=yss.length
 | _,_=>False
def OY (R R':Rho):List K0->List K0->Prop
 | [],[]=>True
 | .val t x::ks,.val t' y::ks'=>jP t t' x=some y/\OY R R' ks ks'
 | .ptr r o::ks,.ptr r' o'::ks'=>(r=r'/\o=o'/\(aW R r).fQ/\(aW R' r).fQ)/\OY R R' ks ks'
 | .lJ r::ks,.lJ r'::ks'=>(r=r'/\(aW R' r).BI/\((aW R' r).lT->(aW R r).lT))/\OY R R' ks ks'
 | _,_=>False
def leK (R R':Rho):K->K->Prop
 | _,.any=>True
 | .val t x,.val t' y=>jP t t' x=some y
 | .nil,.nil=>True
 | .nil,.own r 0=>(aW R r).isNil'/\(aW R' r).isNil
 | .nil,.val (.list t) ys=>(ys:List t.den)=[]
 | .ptr r o,.ptr r' o'=>r=r'/\o=o'/\(aW R r).fQ/\(aW R' r).fQ
 | .own r v,.own r' v'=>r=r'/\v'=0/\Res.isRow v (aW R r)/\Res.isRow 0 (aW R' r)
 | .cell r v i,.cell r' v' i'=>r=r'/\i=i'/\v'=0/\Res.isRow v (aW R r)/\Res.isRow 0 (aW R' r)/\(aW R r).esz=(aW R' r).esz
 | .mrow r v i,.mrow r' v' i'=>r=r'/\i=i'/\v'=0/\Res.lX v (aW R r)/\Res.lX 0 (aW R' r)/\MF (aW R r) (aW R' r)
 | .mpos r v i j,.mpos r' v' i' j'=>(r=r'/\i=i'/\j=j'/\v'=0/\Res.lX v (aW R r)/\Res.lX 0 (aW R' r))/\MF (aW R r) (aW R' r)/\(aW R r).msz=(aW R' r).msz
 | .lJ r,.lJ r'=>r=r'/\(aW R' r).BI/\((aW R' r).lT->(aW R r).lT)
 | .fn g ks,.fn g' ks'=>g=g'/\OY R R' ks ks'
 | _,_=>False
def leP:List Part->List Part->Prop
 | [],[]=>True
 | p::ps,q::qs=>jP p.t q.t p.x=some q.x/\leP ps qs
 | _,_=>False
def leM {t t':Ty} (ids oO:Option (List Nat)) (xss:List (List t.den)) (yss:List (List t'.den)):Prop:=match ids,oO with
 | some l,none=>l.Nodup/\jP (.list (.list t)) (.list (.list t')) (l.map fun i=>xss.getD i [])=some yss
 | _,_=>ids=oO/\jP (.list (.list t)) (.list (.list t')) xss=some yss
def leR (R R':Rho):Res->Res->Prop
 | _,.none=>True
 | .box ps,.box qs=>leP ps qs
 | .row e t xs _,.row e' t' ys v=>e=e'/\v=0/\jP (.list t) (.list t') xs=some ys
 | .fro t xs _,.fro t' ys v=>v=0/\jP (.list t) (.list t') xs=some ys
 | .none,.row _ t ys v=>(ys:List t.den)=[]/\v=0/\t.still=true
 | .mat e e2 t ids xss _,.mat e' e2' t' oO yss v=>e=e'/\e2=e2'/\v=0/\leM ids oO xss yss
 | .none,.mat _ _ t ids yss v=>ids=none/\(yss:List (List t.den))=[]/\v=0/\t.still=true
 | .kT k,.kT k'=>k'.one=true/\leK R R' k k'
 | .kT _,.gone=>True
 | .gone,.gone=>True
 | _,_=>False
def jJ:K->K
 | .own r _=>.own r 0
 | .cell r _ i=>.cell r 0 i
 | .mrow r _ i=>.mrow r 0 i
 | .mpos r _ i j=>.mpos r 0 i j
 | .when b k=>if k.res.isEmpty then .when b k else .any
 | .mix l=>if (K.mix l).res.isEmpty then .mix l else .any
 | .sng _ _=>.any
 | k=>k
theorem a2R {k:K} (h:k.res=[]):jJ k=k:=by
 cases k<;>first|rfl|(simp[K.res] at h;done)|skip
 ·show (if _ then _ else _)=_;rw[if_pos (by simpa [K.res] using h)]
 ·show (if _ then _ else _)=_;rw[if_pos (by rw[h];rfl)]
theorem SV (k:K):jJ (jJ k)=jJ k:=by
 cases k<;>first|rfl|skip
 ·rename_i b k
  show jJ (if k.res.isEmpty then .when b k else .any)=if k.res.isEmpty then .when b k else .any
  split
  ·rename_i h;show (if _ then _ else _)=_;rw[if_pos h]
  ·rfl
 ·rename_i l
  show jJ (if (K.mix l).res.isEmpty then .mix l else .any)=if (K.mix l).res.isEmpty then .mix l else .any
  split
  ·rename_i h;show (if _ then _ else _)=_;rw[if_pos h]
  ·rfl
def oV (G:Gam):Gam:=G.map fun p=>(p.1,jJ p.2)
theorem rZ:∀ (G:Gam) (s:Nat),dH (oV G) s=jJ (dH G s)
 | [],s=>rfl
 | (q,k)::G,s=>by
  show (if s=q then jJ k else dH (oV G) s)=jJ (if s=q then k else dH G s)
  split
  ·rfl
  ·exact rZ G s
def St (B:Book) (W:World) (base:Fix) (G:Gam) (R:Rho) (a:Act) (w:World):Prop:=∃ E:Env,E.fix=base/\Mem E (aW R) W w/\Fits E (aW R) w B a (dH G)
section
variable {B:Book} {W:World} {base:Fix}
theorem yN {l:List Nat}:∀ (G:Gam) (s:Nat),dH (cut l G) s=dH G s\/dH (cut l G) s=.any
 | [],s=>.inl rfl
 | (q,k)::G,s=>by
  unfold cut
  rw[List.filter_cons]
  split
  ·simp only[dH]
   split
   ·exact .inl rfl
   ·exact yN G s
  ·rename_i hq
   simp only[dH]
   split
   ·rename_i e
    subst e
    right
    have hq:l.contains s=true:=by simpa using hq
    have:∀ (G:Gam),dH (G.filter fun p=>!l.contains p.1) s=.any:=by
     intro G
     induction G with
     | nil=>rfl
     | cons p G ih =>
      rw[List.filter_cons]
      split
      ·rename_i hp
       simp only[dH]
       split
       ·rename_i e;rw[<-e,hq] at hp;cases hp
       ·exact ih
      ·exact ih
    exact this G
   ·exact yN G s
theorem St.cut {l:List Nat} {G:Gam} {R:Rho} {a:Act} {w:World} (h:St B W base G R a w):St B W base (cut l G) R a w:=by
 obtain⟨E,h0,h1,h2⟩:=h
 refine⟨E,h0,h1,h2.size,h2.defers,fun s=>?_,fun s=>?_,h2.par⟩
 ·rcases yN (l:=l) G s with e|e
  ·rw[e];exact h2.wf s
  ·rw[e];trivial
 ·rcases yN (l:=l) G s with e|e
  ·rw[e];exact h2.holds s
  ·rw[e];trivial
theorem OD:∀ (G:Gam) (s:Nat),dH G s=.any\/∃ p ∈ G,p.1=s
 | [],s=>.inl rfl
 | (q,k)::G,s=>by
  simp only[dH]
  split
  ·rename_i e;exact .inr ⟨_,List.mem_cons_self ..,e.symm⟩
  ·rcases OD G s with h|⟨p,h1,h2⟩
   ·exact .inl h
   ·exact .inr ⟨p,List.mem_cons_of_mem _ h1,h2⟩
theorem a0e:∀ (R:Rho) (s:Nat),aW R s=.none\/∃ p ∈ R,p.1=s
 | [],s=>.inl rfl
 | (q,k)::R,s=>by
  simp only[aW]
  split
  ·rename_i e;exact .inr ⟨_,List.mem_cons_self ..,e.symm⟩
  ·rcases a0e R s with h|⟨p,h1,h2⟩
   ·exact .inl h
   ·exact .inr ⟨p,List.mem_cons_of_mem _ h1,h2⟩
theorem OZ {F:Nat->Prop} {w:World}:∀ {ps qs:List Part} {cs:List Value},leP ps qs->chunks (iR F w) cs ps->chunks (iR F w) cs qs
 | [],[],_,_,h=>h
 | p::ps,q::qs,cs,⟨h1,h2⟩,⟨c1,c2,k1,k2,k3⟩=>by
  refine⟨c1,c2,k1,?_,OZ h2 k3⟩
  obtain⟨pt,px⟩:=p
  obtain⟨qt,qx⟩:=q
  obtain⟨e,h3⟩:=fK h1
  simp only at e
  subst e
  have h3:px=qx:=h3
  subst h3
  exact k2
 | [],_::_,_,h,_=>h.elim
 | _::_,[],_,h,_=>h.elim
def OT (E:Env) (r:Nat):Option (List Nat)->Option (List Nat)->Nat->Value
 | some l,none,i=>match l[i]? with
  | some j=>E.inn r j
  | none=>undef
 | _,_,i=>E.inn r i
def vH (E:Env) (r:Nat):Res->Res->Nat->Value
 | .mat _ _ _ ids _ _,.mat _ _ _ oO _ _,i=>OT E r ids oO i
 | _,_,_=>undef
def iW (E:Env) (R R':Rho):Env:=⟨fun r=>if (aW R' r).EX then none else E.blk r,fun r=>if (aW R r).isNone then .slice none 0 0 else E.sl r,E.base,fun r=>vH E r (aW R r) (aW R' r),E.sW,E.par⟩
theorem a5y {E:Env} {r:Nat} {x y:Res} {i q:Nat} (h:bT (vH E r x y i)=some q):∃ j,bT (E.inn r j)=some q:=by
 unfold vH at h
 split at h
 ·unfold OT at h
  split at h
  ·split at h
   ·exact⟨_,h⟩
   ·cases h
  ·exact⟨_,h⟩
 ·cases h
theorem XL {E:Env} {R R':Rho} {r j q:Nat} (h:(iW E R R').has r j q):∃ j',E.has r j' q/\(j=0↔j'=0):=by
 cases j with
 | zero =>
  have h:(if (aW R' r).EX then none else E.blk r)=some q:=h
  split at h
  ·cases h
  ·exact⟨0,h,Iff.rfl⟩
 | succ i =>
  obtain⟨j,h⟩:=a5y h
  exact⟨j+1,h,by simp⟩
theorem a8h {t t':Ty} {ids oO:Option (List Nat)} {xss:List (List t.den)} {yss:List (List t'.den)} (h:leM ids oO xss yss) (hn:∀ l,ids=some l->oO≠none):ids=oO/\jP (.list (.list t)) (.list (.list t')) xss=some yss:=by
 unfold leM at h
 split at h
 ·exact absurd rfl (hn _ rfl)
 ·exact h
theorem a5z {E:Env} {r:Nat} {R R':Rho} {x y:Res} {i i' q:Nat} (hE:∀ a c,bT (E.inn r a)=some q->bT (E.inn r c)=some q->a=c) (h:leR R R' x y) (e1:bT (vH E r x y i)=some q) (e2:bT (vH E r x y i')=some q):i=i':=by
 cases x<;>first|(cases y<;>cases e1;done)|skip
 cases y<;>first|(cases e1;done)|skip
 rename_i e0 e02 t0 a5w xss v0 el el2 t ids yss v
 by_cases hn:∃ l,a5w=some l/\ids=none
 ·obtain⟨l,rfl,rfl⟩:=hn
  have hnd:l.Nodup:=h.2.2.2.1
  simp only[vH,OT] at e1 e2
  split at e1<;>first|(cases e1;done)|skip
  rename_i a ha
  split at e2<;>first|(cases e2;done)|skip
  rename_i c hc
  have hac:=hE a c e1 e2
  subst hac
  obtain⟨i1,i2⟩:=List.getElem?_eq_some_iff.1 ha
  obtain⟨i3,i4⟩:=List.getElem?_eq_some_iff.1 hc
  rcases Nat.lt_trichotomy i i' with hl|hl|hl
  ·exact absurd (i2.trans i4.symm) (List.pairwise_iff_getElem.1 hnd i i' i1 i3 hl)
  ·exact hl
  ·exact absurd (i4.trans i2.symm) (List.pairwise_iff_getElem.1 hnd i' i i3 i1 hl)
 ·have hin:∀ i,vH E r (.mat e0 e02 t0 a5w xss v0) (.mat el el2 t ids yss v) i=E.inn r i:=fun i=>by
   cases a5w with
   | none=>rfl
   | some l=>cases ids with
    | none=>exact absurd ⟨l,rfl,rfl⟩ hn
    | some l'=>rfl
  rw[hin] at e1 e2
  exact hE i i' e1 e2
theorem a2r {E:Env} {R R':Rho} {w:World} (hF:∀ b,fz w E b->fz w (iW E R R') b) {k k':K} {v:Value} (hl:leK R R' k k') (hw:k.wf (aW R)) (hk:k.holds E (aW R) w v):k'.wf (aW R')/\k'.holds (iW E R R') (aW R') w v:=by
 have hsl:∀ r,(aW R r).isNone=false->(iW E R R').sl r=E.sl r:=fun r hn=>by
  show (if (aW R r).isNone then _ else _)=_;rw[hn];rfl
 have hblk:∀ r,(aW R' r).EX=false->(iW E R R').blk r=E.blk r:=fun r hn=>by
  show (if (aW R' r).EX then none else E.blk r)=_;rw[hn];rfl
 have hrn:∀ v r,Res.isRow v (aW R r)->(aW R r).isNone=false:=fun v r h=>by
  cases e3:aW R r<;>rw[e3] at h<;>first|exact h.elim|rfl
 have a9X:∀ r,Res.isRow 0 (aW R' r)->Res.eP 0 (aW R' r):=fun r h=>by
  cases e3:aW R' r<;>rw[e3] at h<;>first|exact h.elim|exact Nat.zero_le _
 have b1f:∀ r,Res.lX 0 (aW R' r)->Res.eP 0 (aW R' r):=fun r h=>by
  cases e3:aW R' r<;>rw[e3] at h<;>first|exact h.elim|exact Nat.zero_le _
 have hcnt:∀ r,MF (aW R r) (aW R' r)->(aW R r).cnt=(aW R' r).cnt/\(iW E R R').inn r=E.inn r:=fun r h=>by
  have:(iW E R R').inn r=vH E r (aW R r) (aW R' r):=rfl
  rw[this]
  cases e3:aW R r<;>rw[e3] at h<;>first|exact h.elim|skip
  cases e4:aW R' r<;>rw[e4] at h<;>first|exact h.elim|skip
  obtain⟨h1,h2⟩:=h
  subst h1
  refine⟨h2,?_⟩
  funext i
  rename_i ids _ _ _ _ _ _ _
  cases ids<;>rfl
 cases k' with
 | any=>exact⟨trivial,trivial⟩
 | val t y =>
  cases k<;>first|exact hl.elim|skip
  ·obtain⟨rfl,rfl⟩:=fK hl
   exact⟨trivial,gQ hF (jG.refl _ _) hk⟩
  ·cases t<;>first|exact hl.elim|skip
   have hl:y=[]:=hl
   subst hl
   exact⟨trivial,[.slice none 0 0],hk,none,0,rfl,by simp,by omega,.inl rfl⟩
 | nil=>cases k<;>first|exact hl.elim|exact⟨trivial,hk⟩
 | ptr r o =>
  cases k<;>first|exact hl.elim|skip
  obtain⟨rfl,rfl,j1,j2⟩:=hl
  obtain⟨b,n1,n2⟩:=hk
  refine⟨j2,b,?_,n2⟩
  rw[hblk _ (by cases e3:aW R' _<;>rw[e3] at j2<;>first|exact j2.elim|rfl)];exact n1
 | own r v =>
  cases v with
  | succ n =>
   cases k<;>first|exact hl.elim|skip
   obtain⟨_,j2,_⟩:=hl
   cases j2
  | zero =>
   cases k<;>first|exact hl.elim|skip
   ·obtain⟨j1,j2⟩:=hl
    refine⟨?_,fun _=>?_⟩
    ·show Res.eP 0 (aW R' r)
     cases e3:aW R' r<;>rw[e3] at j2<;>first|exact j2.elim|exact Nat.zero_le _
    ·have:(iW E R R').sl r=.slice none 0 0:=by
      show (if (aW R r).isNone then _ else _)=_
      cases e3:aW R r<;>rw[e3] at j1<;>first|exact j1.elim|rfl
     rw[this];exact hk
   ·obtain⟨rfl,_,j1,j2⟩:=hl
    exact⟨a9X _ j2,fun _=>by rw[hsl _ (hrn _ _ j1)];exact hk j1⟩
 | cell r v i =>
  cases k<;>first|exact hl.elim|skip
  obtain⟨rfl,rfl,rfl,j1,j2,j3⟩:=hl
  refine⟨a9X _ j2,fun _=>?_⟩
  rw[hsl _ (hrn _ _ j1),<-j3]
  exact hk j1
 | mrow r v i =>
  cases k<;>first|exact hl.elim|skip
  obtain⟨rfl,rfl,rfl,j1,j2,j3⟩:=hl
  obtain⟨c1,c2⟩:=hcnt _ j3
  refine⟨⟨b1f _ j2,fun _=>?_⟩,fun _=>?_⟩
  ·rw[<-c1];exact hw.2 j1
  ·rw[c2];exact hk j1
 | mpos r v i j =>
  cases k<;>first|exact hl.elim|skip
  obtain⟨⟨rfl,rfl,rfl,rfl,j1,j2⟩,j3,j4⟩:=hl
  obtain⟨c1,c2⟩:=hcnt _ j3
  refine⟨⟨b1f _ j2,fun _=>?_⟩,fun _=>?_⟩
  ·rw[<-c1];exact hw.2 j1
  ·rw[c2,<-j4];exact hk j1
 | lJ r =>
  cases k<;>first|exact hl.elim|skip
  obtain⟨rfl,j1,j2⟩:=hl
  refine⟨j1,fun hb=>?_⟩
  rw[hblk _ (by cases e3:aW R' _<;>rw[e3] at hb<;>first|exact hb.elim|rfl)]
  exact hk (j2 hb)
 | when b k=>cases k<;>exact(by cases ‹K›<;>exact hl.elim)
 | tup ts x=>cases k<;>exact hl.elim
 | mix ks=>cases k<;>exact hl.elim
 | sng r v=>cases k<;>exact hl.elim
 | fn g ks' =>
  cases k<;>first|exact hl.elim|skip
  rename_i ks
  obtain⟨rfl,hl⟩:=hl
  obtain⟨vs,rfl,hk⟩:=hk
  have:∀ (ks ks':List K0) (vs:List Value),OY R R' ks ks'->mO (fz w E) E (aW R) w ks vs->(∀ k ∈ ks',KZ (aW R') k)/\mO (fz w (iW E R R')) (iW E R R') (aW R') w ks' vs:=by
   intro ks
   induction ks with
   | nil =>
    intro ks' vs hl hk
    cases ks' with
    | nil=>exact⟨fun k h=>(by cases h),hk⟩
    | cons _ _=>exact hl.elim
   | cons k ks ih =>
    intro ks' vs hl ⟨v,vs',e1,e2,e3⟩
    cases ks' with
    | nil=>cases k<;>exact hl.elim
    | cons k' ks' =>
     have key:OY R R' ks ks'->KZ (aW R') k'->a4h (fz w (iW E R R')) (iW E R R') (aW R') w k' v->(∀ k ∈ k'::ks',KZ (aW R') k)/\mO (fz w (iW E R R')) (iW E R R') (aW R') w (k'::ks') vs:=fun h1 h2 h3=>by
      obtain⟨i1,i2⟩:=ih ks' vs' h1 e3
      refine⟨fun k hk=>?_,v,vs',e1,h3,i2⟩
      rcases List.mem_cons.1 hk with rfl|hk
      ·exact h2
      ·exact i1 k hk
     cases k<;>cases k'<;>first|exact hl.elim|skip
     ·obtain⟨h1,h2⟩:=hl
      obtain⟨rfl,rfl⟩:=fK h1
      exact key h2 trivial (gQ hF (jG.refl _ _) e2)
     ·obtain⟨⟨rfl,rfl,j1,j2⟩,h2⟩:=hl
      obtain⟨b,n1,n2⟩:=e2
      exact key h2 j2 ⟨b,by rw[hblk _ (by cases e3:aW R' _<;>rw[e3] at j2<;>first|exact j2.elim|rfl)];exact n1,n2⟩
     ·obtain⟨⟨rfl,j1,j2⟩,h2⟩:=hl
      exact key h2 j1 (fun hb=>by
       rw[hblk _ (by cases e3:aW R' _<;>rw[e3] at hb<;>first|exact hb.elim|rfl)]
       exact e2 (j2 hb))
  obtain⟨q1,q2⟩:=this ks ks' vs hl hk
  exact⟨q1,vs,rfl,q2⟩
theorem b6O {G G':Gam} {R R':Rho} {a:Act} {w:World} (h:St B W base G R a w) (hk:∀ s,leK R R' (dH G s) (dH G' s)\/(dH G' s=dH G s/\(dH G s).res=[])) (hr:∀ r,leR R R' (aW R r) (aW R' r)):St B W base G' R' a w:=by
 obtain⟨E,h0,h1,h2⟩:=h
 have hF:∀ q,fz w E q->fz w (iW E R R') q:=fun q hq=>yL hq.1.1 hq.1.2 (fun r j e=>by
  obtain⟨j',e',_⟩:=XL e
  exact qJ hq r j' e')
 have hs:=jG.refl (fz w E) w
 have a0l:∀ (ks:List K0) (vs:List Value),(∀ k ∈ ks,OV k=[])->mO (fz w E) E (aW R) w ks vs->mO (fz w (iW E R R')) (iW E R R') (aW R') w ks vs:=by
  intro ks
  induction ks with
  | nil=>intro vs _ h;exact h
  | cons k ks ih =>
   intro vs hk ⟨v,vs',e1,e2,e3⟩
   refine⟨v,vs',e1,?_,ih vs' (fun k hk'=>hk k (List.mem_cons_of_mem _ hk')) e3⟩
   have h0:=hk k (List.mem_cons_self ..)
   cases k with
   | val t x=>exact gQ hF hs e2
   | _=>simp[OV] at h0
 have hsl:∀ r,(aW R r).isNone=false->(iW E R R').sl r=E.sl r:=fun r hn=>by
  show (if (aW R r).isNone then _ else _)=_;rw[hn];rfl
 have hblk:∀ r,(aW R' r).EX=false->(iW E R R').blk r=E.blk r:=fun r hn=>by
  show (if (aW R' r).EX then none else E.blk r)=_;rw[hn];rfl
 have b6B:∀ r,(aW R' r).EX=true->(iW E R R').blk r=none:=fun r hn=>by
  show (if (aW R' r).EX then none else E.blk r)=_;rw[hn];rfl
 have II:∀ r i,(iW E R R').inn r i=vH E r (aW R r) (aW R' r) i:=fun _ _=>rfl
 have hnil:∀ r,lU E w r Res.none->(iW E R R').sl r=.slice none 0 0->(aW R' r).EX=false->(iW E R R').blk r=bT ((iW E R R').sl r):=fun r k2 hsl hn=>by
  rw[hblk r hn,hsl];exact k2
 have hres:∀ r,lU (iW E R R') w r (aW R' r):=fun r=>by
  have k2:=h1.res r
  have k1:=hr r
  cases e':aW R' r with
  | none=>exact b6B r (by rw[e'];rfl)
  | gone=>exact b6B r (by rw[e'];rfl)
  | kT k=>trivial
  | box qs =>
   rw[e'] at k1
   cases e:aW R r<;>rw[e] at k1<;>first|exact k1.elim|skip
   rw[e] at k2
   obtain⟨b,cs,el,j1,j3,j4⟩:=k2
   exact⟨b,cs,el,(hblk r (by rw[e'];rfl)).trans j1,j3,OZ k1 (bC (fun c p=>iR.mono hF hs) _ _ j4)⟩
  | row el t ys v =>
   rw[e'] at k1
   cases e:aW R r<;>rw[e] at k1<;>first|exact k1.elim|skip
   ·rw[e] at k2
    obtain⟨j1,j2,j3⟩:=k1
    have hsl:(iW E R R').sl r=.slice none 0 0:=by show (if (aW R r).isNone then _ else _)=_;rw[e];rfl
    refine⟨hnil r k2 hsl (by rw[e'];rfl),j3,[],?_,?_,?_⟩
    ·rw[hsl,j1];exact World.ownsRow_nil w _ _ _
    ·rw[j1];exact rfl
    ·rw[hsl];intro g hg;cases hg
   ·rename_i el0 t0 xs v0
    rw[e] at k2
    obtain⟨j1,j2,j3⟩:=k1
    subst j1
    obtain⟨ee,j3⟩:=fK j3
    simp only[Ty.list.injEq] at ee
    subst ee
    have j3:xs=ys:=j3
    subst j3
    obtain⟨n1,n2,cs,n3,n4,n5⟩:=k2
    have hsl:=hsl r (by rw[e];rfl)
    exact⟨by rw[hblk r (by rw[e'];rfl),hsl];exact n1,n2,cs,by rw[hsl];exact n3,bC (fun c y=>dA hF hs t0 c y) _ _ n4,by rw[hsl];exact n5⟩
  | fro t ys v =>
   rw[e'] at k1
   cases e:aW R r<;>rw[e] at k1<;>first|exact k1.elim|skip
   rename_i t0 xs v0
   rw[e] at k2
   obtain⟨j2,j3⟩:=k1
   obtain⟨ee,j3⟩:=fK j3
   simp only[Ty.list.injEq] at ee
   subst ee
   have j3:xs=ys:=j3
   subst j3
   exact⟨(hblk r (by rw[e'];rfl)).trans k2.1,by rw[hsl r (by rw[e];rfl)];exact gQ hF hs k2.2⟩
  | mat el el2 t ids yss v =>
   rw[e'] at k1
   cases e:aW R r<;>rw[e] at k1<;>first|exact k1.elim|skip
   ·rw[e] at k2
    obtain⟨rfl,j1,j2,j3⟩:=k1
    have hsl:(iW E R R').sl r=.slice none 0 0:=by show (if (aW R r).isNone then _ else _)=_;rw[e];rfl
    have hin:∀ i,bT ((iW E R R').inn r i)=none:=fun i=>by rw[II,e,e'];rfl
    subst j1
    refine⟨hnil r k2 hsl (by rw[e'];rfl),j3,⟨[],?_,rfl,?_⟩,fun i hi=>?_,fun i _=>hin i,fun i xs hi=>?_⟩
    ·rw[hsl];exact World.ownsRow_nil w _ _ _
    ·rw[hsl];intro g hg;cases hg
    ·simp[dW] at hi
    ·simp at hi
   ·rename_i el0 b8Y t0 a5w xss v0
    rw[e] at k2
    obtain⟨j1,j2,j3,j4⟩:=k1
    subst j1 j2
    obtain⟨n1,n2,⟨cs,n3,n4,n5⟩,n6,n7,n8⟩:=k2
    have hsl:=hsl r (by rw[e];rfl)
    have hbl:=hblk r (by rw[e'];rfl)
    by_cases hn:∃ l,a5w=some l/\ids=none
    ·obtain⟨l,rfl,rfl⟩:=hn
     obtain⟨j4,j5⟩:=j4
     obtain⟨ee,j5⟩:=fK j5
     simp only[Ty.list.injEq] at ee
     subst ee
     have j5:(l.map fun i=>xss.getD i [])=yss:=j5
     have hlen:yss.length=l.length:=by rw[<-j5];simp
     have hin:∀ i j,l[i]?=some j->(iW E R R').inn r i=E.inn r j:=fun i j hi=>by rw[II,e,e'];simp only[vH,OT,hi]
     have hin0:∀ i,l[i]?=none->bT ((iW E R R').inn r i)=none:=fun i hi=>by rw[II,e,e'];simp only[vH,OT,hi];rfl
     refine⟨by rw[hbl,hsl];exact n1,n2,⟨cs,?_,?_,by rw[hsl];exact n5⟩,fun i hi=>by simpa [dW] using hi,fun i hi=>hin0 i (List.getElem?_eq_none (by omega)),fun i xs hi=>?_⟩
     ·rw[hsl]
      have:(dW (none:Option (List Nat)) yss).length=(dW (some l) xss).length:=by simp[dW,hlen]
      rw[this];exact n3
     ·rw[n4]
      simp only[dW]
      apply List.ext_getElem?
      intro i
      rw[List.getElem?_map,List.getElem?_map,hlen]
      by_cases hi:i<l.length
      ·rw[List.getElem?_range hi,List.getElem?_eq_getElem hi]
       simp only[Option.map_some]
       rw[hin i l[i] (List.getElem?_eq_getElem hi)]
      ·rw[List.getElem?_eq_none (by simpa using hi),List.getElem?_eq_none (l:=List.range l.length) (by simpa using hi)]
       rfl
     ·rw[<-j5,List.getElem?_map] at hi
      cases hj:l[i]? with
      | none=>rw[hj] at hi;cases hi
      | some j =>
       rw[hj] at hi
       simp only[Option.map_some,Option.some.injEq] at hi
       have hjl:j<xss.length:=n6 j (by simp only[dW];exact List.mem_of_getElem? hj)
       obtain⟨ds,q1,q2,q3⟩:=n8 j xs (by rw[<-hi,List.getD_eq_getElem?_getD,List.getElem?_eq_getElem hjl];rfl)
       exact⟨ds,by rw[hin i j hj];exact q1,bC (fun c y=>dA hF hs t0 c y) _ _ q2,by rw[hin i j hj];exact q3⟩
    ·obtain⟨j4,j5⟩:=a8h j4 (fun l e1 e2=>hn ⟨l,e1,e2⟩)
     subst j4
     obtain⟨ee,j5⟩:=fK j5
     simp only[Ty.list.injEq] at ee
     subst ee
     have j5:xss=yss:=j5
     subst j5
     have hin:(iW E R R').inn r=E.inn r:=by
      funext i
      rw[II,e,e']
      cases a5w<;>rfl
     exact⟨by rw[hbl,hsl];exact n1,n2,⟨cs,by rw[hsl];exact n3,by rw[hin];exact n4,by rw[hsl];exact n5⟩,n6,by rw[hin];exact n7,fun i xs hi=>by
      obtain⟨ds,q1,q2,q3⟩:=n8 i xs hi
      exact⟨ds,by rw[hin];exact q1,bC (fun c y=>dA hF hs t0 c y) _ _ q2,by rw[hin];exact q3⟩⟩
 refine⟨iW E R R',h0,⟨h1.below,hres,fun r j r' j' q e1 e2=>?_,fun r j b e=>?_,h1.base,fun r i hi=>?_,fun r k e'=>?_,h1.dig⟩,h2.size,h2.defers,fun s=>?_,fun s=>?_,h2.par⟩
 ·obtain⟨i,f1,g1⟩:=XL e1
  obtain⟨i',f2,g2⟩:=XL e2
  obtain⟨rfl,rfl⟩:=h1.inj _ _ _ _ _ f1 f2
  refine⟨rfl,?_⟩
  cases j with
  | zero=>cases j' with
   | zero=>rfl
   | succ j'=>exact absurd (g2.2 (g1.1 rfl)) (by simp)
  | succ j=>cases j' with
   | zero=>exact absurd (g1.2 (g2.1 rfl)) (by simp)
   | succ j' =>
    have e1:bT (vH E r (aW R r) (aW R' r) j)=some q:=e1
    have e2:bT (vH E r (aW R r) (aW R' r) j')=some q:=e2
    rw[a5z (fun a c ha hc=>by have:=(h1.inj r (a+1) r (c+1) q ha hc).2;omega) (hr r) e1 e2]
 ·obtain⟨j',e',_⟩:=XL e
  exact h1.mine r j' b e'
 ·have k1:=hres r
  cases e':aW R' r with
  | mat el el2 t ids yss v =>
   rw[e'] at k1 hi
   exact k1.2.2.2.2.1 i hi
  | _=>rw[II,e'];cases aW R r<;>rfl
 ·have k1:=hr r
  rw[e'] at k1
  cases e:aW R r<;>rw[e] at k1<;>first|exact k1.elim|skip
  obtain⟨o1,o2⟩:=k1
  obtain⟨q1,q2,b,v,t,q3,q4,q5,q6⟩:=h1.kbx r _ e
  obtain⟨p1,p2⟩:=a2r hF o2 q1 q6
  exact⟨p1,o1,b,v,t,(hblk r (by rw[e'];rfl)).trans q3,q4,q5,p2⟩
 all_goals rcases hk s with k1|⟨keq,OW⟩
 ·exact(a2r hF k1 (h2.wf s) (h2.holds s)).1
 rotate_left
 ·exact(a2r hF k1 (h2.wf s) (h2.holds s)).2
 rotate_left
 all_goals
  rw[keq]
  have hw:=h2.wf s
  have k2:=h2.holds s
  revert hw OW k2
  generalize dH G s=k9
  intro OW hw k2
 ·clear k2
  induction k9 with
  | when b k ih=>exact fun hb=>ih OW (hw hb)
  | mix ks =>
   intro k hk
   cases k with
   | val t x=>trivial
   | own r v =>
    have:r ∈ (K.mix ks).res:=List.mem_flatMap.2 ⟨_,hk,List.mem_singleton.2 rfl⟩
    rw[OW] at this;cases this
   | _=>exact(by
    have:_ ∈ (K.mix ks).res:=List.mem_flatMap.2 ⟨_,hk,List.mem_singleton.2 rfl⟩
    rw[OW] at this;cases this)
  | fn g ks =>
   intro k hk
   cases k with
   | val t x=>trivial
   | _=>exact(by
    have:_ ∈ (K.fn g ks).res:=List.mem_flatMap.2 ⟨_,hk,List.mem_singleton.2 rfl⟩
    rw[OW] at this;cases this)
  | _=>first|trivial|(simp[K.res] at OW;done)
 ·induction k9 with
  | any=>trivial
  | val t y=>exact gQ hF hs k2
  | nil=>exact k2
  | tup ts y=>obtain⟨vs,j1,j2⟩:=k2;exact⟨vs,j1,jV hF hs ts vs y j2⟩
  | when b k ih=>exact fun hb=>ih OW (hw hb) (k2 hb)
  | mix ks =>
   obtain⟨vs,j1,j2⟩:=k2
   refine⟨vs,j1,?_⟩
   exact a0l ks vs (fun k hk=>by
    cases hkr:OV k with
    | nil=>rfl
    | cons r l =>
     have:r ∈ (K.mix ks).res:=List.mem_flatMap.2 ⟨k,hk,by rw[hkr];exact List.mem_cons_self ..⟩
     rw[OW] at this;cases this) j2
  | fn g ks =>
   obtain⟨vs,j1,j2⟩:=k2
   exact⟨vs,j1,a0l ks vs (fun k hk=>by
    cases hkr:OV k with
    | nil=>rfl
    | cons r l =>
     have:r ∈ (K.fn g ks).res:=List.mem_flatMap.2 ⟨k,hk,by rw[hkr];exact List.mem_cons_self ..⟩
     rw[OW] at this;cases this) j2⟩
  | _=>simp[K.res] at OW
def Post (B:Book) (W:World) (base:Fix) (Q:Exit->Gam->Rho->Prop) (e:Exit) (a:Act) (w:World):Prop:=∃ G R,Q e G R/\St B W base G R a w
theorem YG (hB:B.Ok) (hm:B.P.follows .mixedOrders=true) {id:Nat} {ops:Array Oper} {draw:Bool} {G:Gam} {R:Rho} {vc:List Prop} {G':Gam} {R':Rho} {Q:Exit->Gam->Rho->Prop} {a:Act} {w:World}
  (h:rM B ops draw G R=some (vc,G',R')) (hv:dZ vc) (hq:Q .normal G' R') (hs:St B W base G R a w):(Code.region id ops draw).wp B.P (Post B W base Q) a w:=by
 obtain⟨E,h0,h1,h2⟩:=hs
 unfold rM at h
 cases draw with
 | true =>
  simp only[if_true] at h
  split at h<;>first|(cases h;done)|skip
  rename_i vc1 ss G1 R1 b2e
  split at h<;>first|(cases h;done)|skip
  rename_i hb
  simp only[Bool.and_eq_true] at hb
  simp only[Option.some.injEq,Prod.mk.injEq] at h
  obtain⟨rfl,rfl,rfl⟩:=h
  exact a4T hB hm b2e hb.1.1 hb.1.2 hb.2 hv h1 h2 (fun E' a' w' m0 m1 m2=>⟨_,_,hq,E',m0.trans h0,m1,m2⟩)
 | false =>
  simp only[Bool.false_eq_true,if_false] at h
  exact wp_region_list (VF hB h hv h1 h2 (fun E' a' w' m0 m1 m2=>⟨_,_,hq,E',m0.trans h0,m1,m2⟩))
theorem UZ {c:Code} {ι:Type} (I:ι->Act->World->Prop) (m:ι->Nat) {Q:Exit->Act->World->Prop} (h:∀ i a w,I i a w->c.wp B.P (Exit.then (fun a' w'=>∃ i',m i'<m i/\I i' a' w') Q) a w):∀ n i a w,m i<n->I i a w->Code.rounds B.P c Q n a w
 | 0,i,a,w,hn,hi=>by omega
 | n+1,i,a,w,hn,hi=>by
  rw[rounds_succ]
  refine wp_mono (h i a w hi) (fun e a' w' hq=>?_)
  cases e with
  | normal =>
   obtain⟨i',h1,h2⟩:=hq
   exact UZ I m h n i' a' w' (by omega) h2
  | _=>exact hq
def leL (G:Gam) (R:Rho) (S:Gam) (Z:Rho) (l:List Nat):List Prop :=
 S.map (fun p=>leK R Z (dH G p.1) p.2)++(cut (S.map (·.1)++l) G).flatMap (fun p=>if (dH G p.1).res.isEmpty then [] else [leK R Z (dH G p.1) (jJ (dH G p.1))])++Z.map (fun p=>leR R Z (aW R p.1) p.2)
theorem OC:∀ (S G:Gam) (s:Nat),(∃ p ∈ S,p.1=s/\dH (S++G) s=dH S s)\/((∀ p ∈ S,p.1≠s)/\dH (S++G) s=dH G s)
 | [],G,s=>.inr ⟨fun p hp=>(by cases hp),rfl⟩
 | (q,k)::S,G,s=>by
  simp only[List.cons_append,dH]
  by_cases e:s=q
  ·left
   exact⟨(q,k),List.mem_cons_self ..,e.symm,by rw[if_pos e,if_pos e]⟩
  ·rw[if_neg e,if_neg e]
   rcases OC S G s with⟨p,h1,h2,h3⟩|⟨h1,h2⟩
   ·exact .inl ⟨p,List.mem_cons_of_mem _ h1,h2,h3⟩
   ·refine .inr ⟨fun p hp=>?_,h2⟩
    rcases List.mem_cons.1 hp with rfl|hp
    ·exact fun e'=>e e'.symm
    ·exact h1 p hp
theorem wG:∀ {S:Gam} {s:Nat},(∃ p ∈ S,p.1=s)->∃ p ∈ S,p.1=s/\dH S s=p.2
 | (q,k)::S,s,⟨p,hp,he⟩=>by
  simp only[dH]
  by_cases e:s=q
  ·exact⟨(q,k),List.mem_cons_self ..,e.symm,by rw[if_pos e]⟩
  ·rw[if_neg e]
   rcases List.mem_cons.1 hp with rfl|hp
   ·exact absurd he.symm e
   ·obtain⟨p',h1,h2,h3⟩:=wG ⟨p,hp,he⟩
    exact⟨p',List.mem_cons_of_mem _ h1,h2,h3⟩
 | [],s,⟨p,hp,_⟩=>by cases hp
theorem OG:∀ {S:Rho} {s:Nat},(∃ p ∈ S,p.1=s)->∃ p ∈ S,p.1=s/\aW S s=p.2
 | (q,k)::S,s,⟨p,hp,he⟩=>by
  simp only[aW]
  by_cases e:s=q
  ·exact⟨(q,k),List.mem_cons_self ..,e.symm,by rw[if_pos e]⟩
  ·rw[if_neg e]
   rcases List.mem_cons.1 hp with rfl|hp
   ·exact absurd he.symm e
   ·obtain⟨p',h1,h2,h3⟩:=OG ⟨p,hp,he⟩
    exact⟨p',List.mem_cons_of_mem _ h1,h2,h3⟩
 | [],s,⟨p,hp,_⟩=>by cases hp
theorem a2s {G:Gam} {R:Rho} {S:Gam} {Z:Rho} {l:List Nat} {a:Act} {w:World} (h:St B W base G R a w) (hl:dZ (leL G R S Z l)):St B W base (S++oV (cut (S.map (·.1)++l) G)) Z a w:=by
 obtain⟨h12,h3⟩:=bI.1 hl
 obtain⟨h1,h2⟩:=bI.1 h12
 have hRr:∀ r,leR R Z (aW R r) (aW Z r):=fun r=>by
  rcases a0e Z r with e|hm
  ·rw[e];cases aW R r<;>trivial
  ·obtain⟨p',j1,rfl,j3⟩:=OG hm
   rw[j3]
   exact MN h3 (List.mem_map.2 ⟨p',j1,rfl⟩)
 refine b6O h (fun s=>?_) hRr
 rcases OC S (oV (cut (S.map (·.1)++l) G)) s with⟨p,k1,k2,k3⟩|⟨k1,k2⟩
 ·left
  rw[k3]
  obtain⟨p',j1,rfl,j3⟩:=wG ⟨p,k1,k2⟩
  rw[j3]
  exact MN h1 (List.mem_map.2 ⟨p',j1,rfl⟩)
 ·rw[k2,rZ]
  rcases yN (l:=S.map (·.1)++l) G s with e|e
  ·rcases OD (cut (S.map (·.1)++l) G) s with e2|hm
   ·left;rw[e2];cases dH G s<;>trivial
   ·obtain⟨p',j1,rfl,j3⟩:=wG hm
    by_cases hc:(dH G p'.1).res.isEmpty=true
    ·right
     have h0:(dH G p'.1).res=[]:=List.isEmpty_iff.1 hc
     rw[e]
     exact⟨a2R h0,h0⟩
    ·left
     rw[e]
     exact MN h2 (List.mem_flatMap.2 ⟨p',j1,by rw[if_neg hc];exact List.mem_singleton.2 rfl⟩)
  ·left;rw[e];cases dH G s<;>trivial
theorem St.congr {G G':Gam} {R:Rho} {a:Act} {w:World} (h:St B W base G R a w) (hg:∀ s,dH G' s=dH G s):St B W base G' R a w:=by
 obtain⟨E,h0,h1,h2⟩:=h
 exact⟨E,h0,h1,h2.size,h2.defers,fun s=>by rw[hg];exact h2.wf s,fun s=>by rw[hg];exact h2.holds s,h2.par⟩
end
def a4N (n:Gam->Rho->Prop) (Q:Exit->Gam->Rho->Prop):Exit->Gam->Rho->Prop
 | .normal,G,R=>n G R
 | e,G,R=>Q e G R
def a6P (id:Nat) (Q:Exit->Gam->Rho->Prop):Exit->Gam->Rho->Prop
 | .exit i,G,R=>if i=id then Q .normal G R else Q (.exit i) G R
 | e,G,R=>Q e G R
inductive Ann:Type 1 where
 | inv (ι:Type) (S:ι->Gam) (Z:ι->Rho) (m:ι->Nat) (i0:ι) (sub:ι->List Ann)
 | rounds (n:Nat) (l:List Nat) (sub:List Ann)
 | turns (n:Nat) (l k:List Nat) (sub:List Ann)
def nl:Code->Nat
 | .seq a b=>nl a+nl b
 | .cond _ a b=>nl a+nl b
 | .block _ c=>nl c
 | .loop _=>1
 | _=>0
def YP (F:(Exit->Gam->Rho->Prop)->Gam->Rho->Prop) (l:List Nat) (Q:Exit->Gam->Rho->Prop):Nat->Gam->Rho->Prop
 | 0,_,_=>False
 | n+1,G,R=>F (a4N (fun G R=>YP F l Q n (cut l G) R) Q) G R
def b2E:Res->Res
 | .row e t xs _=>.row e t xs 0
 | .fro t xs _=>.fro t xs 0
 | .mat e e2 t ids xss _=>.mat e e2 t ids xss 0
 | .kT k=>.kT (jJ k)
 | x=>x
def VN (G:Gam):List Nat->Gam
 | []=>[]
 | s::l=>match (dH G s).res with
  | []=>VN G l
  | _=>(s,jJ (dH G s))::VN G l
def a9j (R:Rho):List Nat->Rho
 | []=>[]
 | r::k=>(r,b2E (aW R r))::a9j R k
def less (l k:List Nat):List Nat:=l.filter fun s=>!k.contains s
def IQ:K->Bool
 | .any=>true
 | _=>false
theorem IU {k:K}:IQ k=true↔k=.any:=by cases k<;>simp[IQ]
def b5H (S:Gam) (l:List Nat):Bool:=S.all fun p=>l.contains p.1 || IQ p.2
def Res.IV:Res->Bool
 | .box _=>true
 | _=>false
def KD (v:Nat):Res->Bool
 | .mat _ _ _ _ _ v'=>v'==v
 | _=>false
def Res.tX:Res->Bool
 | .kT _=>true
 | _=>false
def Res.a0u:Res->Bool
 | .kT _=>true
 | .gone=>true
 | _=>false
theorem Res.wI {x:Res}:x.tX=true↔x.lT:=by cases x<;>simp[Res.tX,Res.lT]
theorem Res.a0v {x:Res} (h:x.a0u=true):x.BI:=by cases x<;>simp_all [Res.a0u,Res.BI]
theorem EU {v:Nat} {x:Res} (h:KD v x=true):Res.lX v x:=by cases x<;>simp_all [KD,Res.lX]
theorem Res.AU {x:Res} (h:x.IV=true):x.fQ:=by cases x<;>simp_all [Res.IV,Res.fQ]
def a8f (R R':Rho):K->K->Bool
 | _,.any=>true
 | .nil,.nil=>true
 | .ptr r o,.ptr r' o'=>r==r'&&o==o'&&(aW R r).IV&&(aW R' r).IV
 | .own r v,.own r' v'=>r==r'&&v'==0&&FN v (aW R r)&&FN 0 (aW R' r)
 | .lJ r,.lJ r'=>r==r'&&(aW R' r).a0u&&(!(aW R' r).tX || (aW R r).tX)
 | _,_=>false
theorem b0f {R R':Rho}:∀ {k k':K},a8f R R' k k'=true->leK R R' k k'
 | k,.any,_=>by cases k<;>trivial
 | .nil,.nil,_=>trivial
 | .ptr r o,.ptr r' o',h=>by
  simp only[a8f,Bool.and_eq_true,beq_iff_eq] at h
  exact⟨h.1.1.1,h.1.1.2,Res.AU h.1.2,Res.AU h.2⟩
 | .own r v,.own r' v',h=>by
  simp only[a8f,Bool.and_eq_true,beq_iff_eq] at h
  obtain⟨⟨⟨h1,h2⟩,h3⟩,h4⟩:=h
  subst h2
  simp only[leK]
  exact⟨h1,trivial,zI h3,zI h4⟩
 | .lJ r,.lJ r',h=>by
  simp only[a8f,Bool.and_eq_true,beq_iff_eq,Bool.or_eq_true,Bool.not_eq_true'] at h
  obtain⟨⟨h1,h2⟩,h3⟩:=h
  refine⟨h1,Res.a0v h2,fun hb=>?_⟩
  have:=Res.wI.2 hb
  rw[this] at h3
  exact Res.wI.1 (h3.resolve_left (by simp))
def eqC (t t':Ty) (x:t.den) (y:t'.den):List Prop:=if h:t=t' then [h ▸ x=y] else [False]
theorem yG {t t':Ty} {x:t.den} {y:t'.den} (h:dZ (eqC t t' x y)):jP t t' x=some y:=by
 unfold eqC at h
 split at h
 ·rename_i e
  subst e
  unfold jP
  rw[dif_pos rfl]
  exact congrArg some h.1
 ·exact h.1.elim
def b2j (ids oO:Option (List Nat)):List Prop:=match ids,oO with
 | none,none=>[]
 | some l,some l'=>[l=l']
 | _,_=>[False]
theorem a9Z {ids oO:Option (List Nat)} (h:dZ (b2j ids oO)):ids=oO:=by
 unfold b2j at h
 split at h
 ·rfl
 ·rw[h.1]
 ·exact h.1.elim
def a4I:Res->Res->List Prop
 | .mat _ _ _ ids xss _,.mat _ _ _ oO yss _=>(xss.length=yss.length)::b2j ids oO
 | _,_=>[False]
theorem a1k {x y:Res} (h:dZ (a4I x y)):MF x y:=by
 unfold a4I at h
 split at h
 ·exact⟨a9Z h.2,h.1⟩
 ·exact h.1.elim
def OX (R R':Rho):List K0->List K0->List Prop
 | [],[]=>[]
 | .val t x::ks,.val t' y::ks'=>eqC t t' x y++OX R R' ks ks'
 | .ptr r o::ks,.ptr r' o'::ks'=>if r==r'&&o==o'&&(aW R r).IV&&(aW R' r).IV then OX R R' ks ks' else [False]
 | .lJ r::ks,.lJ r'::ks'=>if r==r'&&(aW R' r).a0u&&(!(aW R' r).tX || (aW R r).tX) then OX R R' ks ks' else [False]
 | _,_=>[False]
theorem b0e {R R':Rho} {r r':Nat} (h:(r==r'&&(aW R' r).a0u&&(!(aW R' r).tX || (aW R r).tX))=true):r=r'/\(aW R' r).BI/\((aW R' r).lT->(aW R r).lT):=by
 simp only[Bool.and_eq_true,beq_iff_eq,Bool.or_eq_true,Bool.not_eq_true'] at h
 obtain⟨⟨h1,h2⟩,h3⟩:=h
 refine⟨h1,Res.a0v h2,fun hb=>?_⟩
 have:=Res.wI.2 hb
 rw[this] at h3
 exact Res.wI.1 (h3.resolve_left (by simp))
theorem ES {R R':Rho}:∀ {ks ks':List K0},dZ (OX R R' ks ks')->OY R R' ks ks'
 | [],[],_=>trivial
 | k::ks,[],h=>by cases k<;>exact h.1.elim
 | [],k::ks,h=>h.1.elim
 | k::ks,k'::ks',h=>by
  cases k<;>cases k'<;>first|exact h.1.elim|skip
  ·exact⟨yG (bI.1 h).1,ES (bI.1 h).2⟩
  ·simp only[OX] at h
   split at h<;>first|exact h.1.elim|skip
   rename_i hb
   simp only[Bool.and_eq_true,beq_iff_eq] at hb
   exact⟨⟨hb.1.1.1,hb.1.1.2,Res.AU hb.1.2,Res.AU hb.2⟩,ES h⟩
  ·simp only[OX] at h
   split at h<;>first|exact h.1.elim|skip
   rename_i hb
   exact⟨b0e hb,ES h⟩
def a8g (R R':Rho) (k k':K):List Prop:=if a8f R R' k k' then [] else match k,k' with
 | .val t x,.val t' y=>eqC t t' x y
 | .fn g ks,.fn g' ks'=>if g==g' then OX R R' ks ks' else [False]
 | .cell r v i,.cell r' v' i'=>if r==r'&&v'==0&&FN v (aW R r)&&FN 0 (aW R' r)&&(aW R r).esz==(aW R' r).esz then [i=i'] else [False]
 | .mrow r v i,.mrow r' v' i'=>if r==r'&&v'==0&&KD v (aW R r)&&KD 0 (aW R' r) then (i=i')::a4I (aW R r) (aW R' r) else [False]
 | .mpos r v i j,.mpos r' v' i' j'=>if r==r'&&v'==0&&KD v (aW R r)&&KD 0 (aW R' r)&&(aW R r).msz==(aW R' r).msz then (i=i')::(j=j')::a4I (aW R r) (aW R' r) else [False]
 | k,k'=>[leK R R' k k']
theorem XJ {R R':Rho} {k k':K} (h:dZ (a8g R R' k k')):leK R R' k k':=by
 unfold a8g at h
 split at h
 ·rename_i e;exact b0f e
 ·split at h
  ·exact yG h
  ·split at h<;>first|exact h.1.elim|skip
   rename_i hb
   exact⟨by simpa using hb,ES h⟩
  ·split at h<;>first|exact h.1.elim|skip
   rename_i hb
   simp only[Bool.and_eq_true,beq_iff_eq] at hb
   obtain⟨⟨⟨⟨h1,h2⟩,h3⟩,h4⟩,h5⟩:=hb
   exact⟨h1,h.1,h2,zI h3,zI h4,h5⟩
  ·split at h<;>first|exact h.1.elim|skip
   rename_i hb
   simp only[Bool.and_eq_true,beq_iff_eq] at hb
   obtain⟨⟨⟨h1,h2⟩,h3⟩,h4⟩:=hb
   exact⟨h1,h.1,h2,EU h3,EU h4,a1k h.2⟩
  ·split at h<;>first|exact h.1.elim|skip
   rename_i hb
   simp only[Bool.and_eq_true,beq_iff_eq] at hb
   obtain⟨⟨⟨⟨h1,h2⟩,h3⟩,h4⟩,h5⟩:=hb
   exact⟨⟨h1,h.1,h.2.1,h2,EU h3,EU h4⟩,a1k h.2.2,h5⟩
  ·exact h.1
def b2q:List Part->List Part->List Prop
 | [],[]=>[]
 | p::ps,q::qs=>eqC p.t q.t p.x q.x++b2q ps qs
 | _,_=>[False]
theorem a4j:∀ {ps qs:List Part},dZ (b2q ps qs)->leP ps qs
 | [],[],_=>trivial
 | p::ps,q::qs,h=>⟨yG (bI.1 h).1,a4j (bI.1 h).2⟩
 | [],_::_,h=>h.1.elim
 | _::_,[],h=>h.1.elim
def b2p {t t':Ty} (ids oO:Option (List Nat)) (xss:List (List t.den)) (yss:List (List t'.den)):List Prop:=match ids,oO with
 | some l,none=>l.Nodup::eqC (.list (.list t)) (.list (.list t')) (l.map fun i=>xss.getD i []) yss
 | none,none=>eqC (.list (.list t)) (.list (.list t')) xss yss
 | some l,some l'=>(l=l')::eqC (.list (.list t)) (.list (.list t')) xss yss
 | none,some _=>[False]
theorem b0h {t t':Ty} {ids oO:Option (List Nat)} {xss:List (List t.den)} {yss:List (List t'.den)} (h:dZ (b2p ids oO xss yss)):leM ids oO xss yss:=by
 cases ids<;>cases oO<;>simp only[b2p] at h
 ·exact⟨rfl,yG h⟩
 ·exact h.1.elim
 ·exact⟨h.1,yG h.2⟩
 ·exact⟨by rw[h.1],yG h.2⟩
def b2r (R R':Rho):Res->Res->List Prop
 | _,.none=>[]
 | .box ps,.box qs=>b2q ps qs
 | .row e t xs _,.row e' t' ys v=>if e=e'/\v=0 then eqC (.list t) (.list t') xs ys else [False]
 | .fro t xs _,.fro t' ys v=>if v=0 then eqC (.list t) (.list t') xs ys else [False]
 | .mat e e2 t ids xss _,.mat e' e2' t' oO yss v=>if e=e'/\e2=e2'/\v=0 then b2p ids oO xss yss else [False]
 | .kT k,.kT k'=>if k'.one then a8g R R' k k' else [False]
 | .kT _,.gone=>[]
 | .gone,.gone=>[]
 | x,y=>[leR R R' x y]
theorem b0i {R R':Rho} {x y:Res} (h:dZ (b2r R R' x y)):leR R R' x y:=by
 unfold b2r at h
 split at h
 ·cases x<;>trivial
 ·exact a4j h
 ·split at h
  ·rename_i hh;exact⟨hh.1,hh.2,yG h⟩
  ·exact h.1.elim
 ·split at h
  ·rename_i hh;exact⟨hh,yG h⟩
  ·exact h.1.elim
 ·split at h
  ·rename_i hh;exact⟨hh.1,hh.2.1,hh.2.2,b0h h⟩
  ·exact h.1.elim
 ·split at h
  ·rename_i hh;exact⟨hh,XJ h⟩
  ·exact h.1.elim
 ·trivial
 ·trivial
 ·exact h.1
theorem a3z {α:Type} {f g:α->List Prop} (h:∀ a,dZ (f a)->dZ (g a)):∀ {l:List α},dZ (l.flatMap f)->dZ (l.flatMap g)
 | [],_=>trivial
 | a::l,h1=>by
  rw[List.flatMap_cons] at h1 ⊢
  exact bI.2 ⟨h a (bI.1 h1).1,a3z h (bI.1 h1).2⟩
theorem ML {α:Type} {f:α->List Prop} {g:α->Prop} (h:∀ a,dZ (f a)->g a):∀ {l:List α},dZ (l.flatMap f)->dZ (l.map g)
 | [],_=>trivial
 | a::l,h1=>by
  rw[List.flatMap_cons] at h1
  exact⟨h a (bI.1 h1).1,ML h (bI.1 h1).2⟩
def b0g (G:Gam) (R:Rho) (S:Gam) (Z:Rho) (l:List Nat):List Prop :=
 S.flatMap (fun p=>a8g R Z (dH G p.1) p.2)++(cut (S.map (·.1)++l) G).flatMap (fun p=>if (dH G p.1).res.isEmpty then [] else a8g R Z (dH G p.1) (jJ (dH G p.1)))++Z.flatMap (fun p=>b2r R Z (aW R p.1) p.2)
theorem XK {G:Gam} {R:Rho} {S:Gam} {Z:Rho} {l:List Nat} (h:dZ (b0g G R S Z l)):dZ (leL G R S Z l):=by
 obtain⟨h12,h3⟩:=bI.1 h
 obtain⟨h1,h2⟩:=bI.1 h12
 refine bI.2 ⟨bI.2 ⟨ML (fun p hp=>XJ hp) h1,a3z (fun p hp=>?_) h2⟩,ML (fun p hp=>b0i hp) h3⟩
 by_cases e:(dH G p.1).res.isEmpty=true
 ·rw[if_pos e];trivial
 ·rw[if_neg e] at hp ⊢
  exact⟨XJ hp,trivial⟩
def b5G (R:Rho):K->Bool
 | .own r v=>!FN v (aW R r)
 | .cell r v _=>!FN v (aW R r)
 | .mrow r v _=>!KD v (aW R r)
 | .mpos r v _ _=>!KD v (aW R r)
 | _=>false
def OA (G:Gam) (R:Rho) (zs:List Nat):List Nat:=(G.filter fun p=>(dH G p.1).res.any (fun r=>!zs.contains r) || b5G R (dH G p.1)).map (·.1)
def b0Z (G G':Gam) (l:List Nat):Bool:=(cut l G).all fun p=>IQ (jJ (dH G p.1)) || !IQ (jJ (dH G' p.1))
def a7H (G G':Gam) (l:List Nat):List Prop:=if b0Z G G' l then [] else [False]
def a3j (F:(Exit->Gam->Rho->Prop)->Gam->Rho->Prop) (L l k:List Nat) (Q:Exit->Gam->Rho->Prop):Nat->Gam->Rho->Prop
 | 0,_,_=>False
 | n+1,G,R=>F (a4N (fun G R=>dZ (b0g G R (VN G l) (a9j R k) (less L l++OA G R k))/\b5H (VN G l) L=true/\a3j F L l k Q n (VN G l++oV (cut ((VN G l).map (·.1)++(less L l++OA G R k)) G)) (a9j R k)) Q) G R
def ifB (b:Bool) (p q:Prop):Prop:=match b with
 | true=>p
 | false=>q
theorem gU {b:Bool} {p q:Prop}:ifB b p q↔(b=true->p)/\(b=false->q):=by cases b<;>simp[ifB]
def vwp (B:Book):Code->List Ann->(Exit->Gam->Rho->Prop)->Gam->Rho->Prop
 | .skip,_,Q,G,R=>Q .normal G R
 | .label _,_,Q,G,R=>Q .normal G R
 | .exit i,_,Q,G,R=>Q (.exit i) G R
 | .ret,_,Q,G,R=>Q .ret G R
 | .region _ ops draw,_,Q,G,R=>match rM B ops draw G R with
  | some ([],G',R')=>Q .normal G' R'
  | some (vc,G',R')=>dZ vc/\Q .normal G' R'
  | none=>False
 | .seq a b,A,Q,G,R=>vwp B a (A.take (nl a)) (a4N (vwp B b (A.drop (nl a)) Q) Q) G R
 | .cond c t e,A,Q,G,R=>match opK (dH G) c with
  | .val .bool b=>ifB b (vwp B t (A.take (nl t)) Q G R) (vwp B e (A.drop (nl t)) Q G R)
  | _=>False
 | .block i c,A,Q,G,R=>vwp B c A (a6P i Q) G R
 | .loop c,A,Q,G,R=>match A with
  | .inv ι S Z m i0 sub::_=>dZ (b0g G R (S i0) (Z i0) (asg c++OA G R ((Z i0).map (·.1)))) /\
   ∀ i,b5H (S i) (asg c)=true/\vwp B c (sub i) (a4N (fun G' R'=>∃ i',m i'<m i/\dZ (a7H G G' ((S i').map (·.1)++(asg c++OA G R ((Z i0).map (·.1))))++b0g G' R' (S i') (Z i') (asg c++OA G R ((Z i0).map (·.1))))) Q) (S i++oV (cut ((S i).map (·.1)++(asg c++OA G R ((Z i0).map (·.1)))) G)) (Z i)
  | .rounds n l sub::_=>YP (vwp B c sub) (less (asg c) l) Q n G R
  | .turns n l k sub::_=>a3j (vwp B c sub) (asg c) l k Q n G R
  | []=>False
 | _,_,_,_,_=>False
section
variable {B:Book} {W:World} {base:Fix}
def Fr (l:List Nat) (G G':Gam):Prop:=∀ s,s ∉ l->jJ (dH G' s)=.any\/jJ (dH G' s)=jJ (dH G s)
theorem Fr.trans {l m:List Nat} {G G' G'':Gam} (h:Fr l G G') (k:Fr m G' G''):Fr (l++m) G G'':=fun s hs=>by
 simp only[List.mem_append,not_or] at hs
 rcases k s hs.2 with e|e
 ·exact .inl e
 ·rcases h s hs.1 with e2|e2
  ·exact .inl (e.trans e2)
  ·exact .inr (e.trans e2)
theorem Fr.refl (l:List Nat) (G:Gam):Fr l G G:=fun _ _=>.inr rfl
theorem Fr.more {l m:List Nat} {G G':Gam} (h:Fr l G G') (hl:∀ s ∈ l,s ∈ m):Fr m G G':=fun s hs=>h s (fun h'=>hs (hl s h'))
theorem Fr.two {l:List Nat} {G G' G'':Gam} (h:Fr l G G') (k:Fr l G' G''):Fr l G G'':=(h.trans k).more (fun s hs=>(List.mem_append.1 hs).elim id id)
theorem VE {ops:Array Oper}:∀ {l:List Oper} {G:Gam} {R:Rho} {vc:List Prop} {G':Gam} {R':Rho},zL B ops l G R=some (vc,G',R')->Fr (l.filterMap (·.dst)) G G'
 | [],G,R,vc,G',R',h=>by
  simp only[zL,Option.some.injEq,Prod.mk.injEq] at h
  obtain⟨_,rfl,_⟩:=h
  exact Fr.refl _ _
 | o::rest,G,R,vc,G',R',h=>by
  simp only[zL] at h
  split at h<;>first|(cases h;done)|skip
  rename_i vc1 k l1 h1
  split at h<;>first|(cases h;done)|skip
  rename_i vc2 G2 R2 h2
  simp only[Option.some.injEq,Prod.mk.injEq] at h
  obtain⟨_,rfl,_⟩:=h
  intro s hs
  have ih:=VE h2
  cases hd:o.dst with
  | none =>
   rw[List.filterMap_cons_none hd] at hs
   exact(ih s hs).imp id (fun h=>h.trans (by rw[vF,hd];rfl))
  | some d =>
   rw[List.filterMap_cons_some hd] at hs
   simp only[List.mem_cons,not_or] at hs
   exact(ih s hs.2).imp id (fun h=>h.trans (by rw[vF,hd];exact congrArg jJ (aU _ _ hs.1)))
theorem VH {ops:Array Oper}:∀ {l:List Oper} {G:Gam} {R:Rho} {vc:List Prop} {ss:List Sim} {G':Gam} {R':Rho},wQ B ops l G R=some (vc,ss,G',R')->Fr (l.filterMap (·.dst)) G G'
 | [],G,R,vc,ss,G',R',h=>by
  simp only[wQ,Option.some.injEq,Prod.mk.injEq] at h
  obtain⟨_,_,rfl,_⟩:=h
  exact Fr.refl _ _
 | o::rest,G,R,vc,ss,G',R',h=>by
  simp only[wQ] at h
  split at h<;>first|(cases h;done)|skip
  rename_i vc1 k l1 h1
  split at h<;>first|(cases h;done)|skip
  rename_i vc2 ss2 G2 R2 h2
  simp only[Option.some.injEq,Prod.mk.injEq] at h
  obtain⟨_,_,rfl,_⟩:=h
  intro s hs
  have ih:=VH h2
  cases hd:o.dst with
  | none =>
   rw[List.filterMap_cons_none hd] at hs
   exact(ih s hs).imp id (fun h=>h.trans (by rw[vF,hd];rfl))
  | some d =>
   rw[List.filterMap_cons_some hd] at hs
   simp only[List.mem_cons,not_or] at hs
   exact(ih s hs.2).imp id (fun h=>h.trans (by rw[vF,hd];exact congrArg jJ (aU _ _ hs.1)))
theorem YF {id:Nat} {ops:Array Oper} {draw:Bool} {G:Gam} {R:Rho} {vc:List Prop} {G':Gam} {R':Rho} (h:rM B ops draw G R=some (vc,G',R')):Fr (asg (.region id ops draw)) G G':=by
 unfold rM at h
 cases draw with
 | true =>
  simp only[if_true] at h
  split at h<;>first|(cases h;done)|skip
  rename_i vc1 ss G1 R1 b2e
  split at h<;>first|(cases h;done)|skip
  simp only[Option.some.injEq,Prod.mk.injEq] at h
  obtain⟨_,rfl,_⟩:=h
  exact VH b2e
 | false =>
  simp only[Bool.false_eq_true,if_false] at h
  exact VE h
def PostF (B:Book) (W:World) (base:Fix) (Q:Exit->Gam->Rho->Prop) (l:List Nat) (G:Gam) (e:Exit) (a:Act) (w:World):Prop:=∃ G' R,Q e G' R/\Fr l G G'/\St B W base G' R a w
theorem tV {l:List Nat} {s:Nat} (h:s ∈ l):∀ (G:Gam),dH (cut l G) s=.any
 | []=>rfl
 | (q,k)::G=>by
  unfold cut
  rw[List.filter_cons]
  have ih:=tV h G
  unfold cut at ih
  split
  ·rename_i hq
   simp only[dH]
   rw[if_neg]
   ·exact ih
   ·rintro rfl
    have:l.contains s=true:=by simpa using h
    rw[this] at hq;cases hq
  ·exact ih
theorem lH {l:List Nat} {s:Nat} (h:s ∉ l):∀ (G:Gam),dH (cut l G) s=dH G s
 | []=>rfl
 | (q,k)::G=>by
  unfold cut
  rw[List.filter_cons]
  have ih:=lH h G
  unfold cut at ih
  split
  ·simp only[dH]
   split
   ·rfl
   ·exact ih
  ·rename_i hq
   simp only[dH]
   rw[if_neg]
   ·exact ih
   ·rintro rfl
    have:l.contains s=true:=by simpa using hq
    exact h (by simpa using this)
theorem a3Z {S:Gam} {L l:List Nat} {G:Gam} (h:b5H S L=true):Fr L G (S++oV (cut (S.map (·.1)++l) G)):=fun s hs=>by
 rcases OC S (oV (cut (S.map (·.1)++l) G)) s with⟨p,k1,rfl,k3⟩|⟨k1,k2⟩
 ·left
  obtain⟨p',j1,j2,j3⟩:=wG ⟨p,k1,rfl⟩
  have:=List.all_eq_true.1 h p' j1
  rw[j2] at this
  simp only[Bool.or_eq_true,List.contains_eq_mem,decide_eq_true_eq,IU] at this
  rw[k3,j3,this.resolve_left hs]
  rfl
 ·rw[k2,rZ,SV]
  by_cases hm:s ∈ S.map (·.1)++l
  ·left;rw[tV hm];rfl
  ·right;rw[lH hm]
theorem a5u {S:Gam} {L l:List Nat} {G G':Gam} (h:Fr L G G') (hL:∀ s ∈ L,s ∈ S.map (·.1)++l) (hb:dZ (a7H G G' (S.map (·.1)++l))) (s:Nat):dH (S++oV (cut (S.map (·.1)++l) G)) s=dH (S++oV (cut (S.map (·.1)++l) G')) s:=by
 have hb:b0Z G G' (S.map (·.1)++l)=true:=by
  unfold a7H at hb
  split at hb
  ·assumption
  ·exact hb.1.elim
 have e:dH (oV (cut (S.map (·.1)++l) G)) s=dH (oV (cut (S.map (·.1)++l) G')) s:=by
  rw[rZ,rZ]
  by_cases hm:s ∈ S.map (·.1)++l
  ·rw[tV hm,tV hm]
  ·rw[lH hm,lH hm]
   rcases h s (fun h'=>hm (hL s h')) with e|e
   ·rcases OD (cut (S.map (·.1)++l) G) s with e2|⟨p,hp,rfl⟩
    ·rw[lH hm] at e2
     rw[e,e2];rfl
    ·have:=List.all_eq_true.1 hb p hp
     rw[e] at this
     simp only[IQ,Bool.not_true,Bool.or_false,IU] at this
     rw[e,IU.1 this]
   ·exact e.symm
 have:∀ (S:Gam) (X Y:Gam),dH X s=dH Y s->dH (S++X) s=dH (S++Y) s:=by
  intro S
  induction S with
  | nil=>intro X Y h;exact h
  | cons p S ih =>
   intro X Y h
   simp only[List.cons_append,dH]
   split
   ·rfl
   ·exact ih X Y h
 exact this S _ _ e
theorem b5N (hB:B.Ok) (hm:B.P.follows .mixedOrders=true):∀ (c:Code) {A:List Ann} {Q:Exit->Gam->Rho->Prop} {G:Gam} {R:Rho} {a:Act} {w:World},vwp B c A Q G R->St B W base G R a w->c.wp B.P (PostF B W base Q (asg c) G) a w:=by
 intro c
 induction c with
 | skip=>intro A Q G R a w h hs;exact wp_skip ⟨G,R,h,Fr.refl _ _,hs⟩
 | label l=>intro A Q G R a w h hs;exact wp_label ⟨G,R,h,Fr.refl _ _,hs⟩
 | exit i=>intro A Q G R a w h hs;exact wp_exit ⟨G,R,h,Fr.refl _ _,hs⟩
 | ret=>intro A Q G R a w h hs;exact wp_ret ⟨G,R,h,Fr.refl _ _,hs⟩
 | region id ops draw =>
  intro A Q G R a w h hs
  have key:∀ (vc:List Prop) (G':Gam) (R':Rho),rM B ops draw G R=some (vc,G',R')->dZ vc->Q .normal G' R'->(Code.region id ops draw).wp B.P (PostF B W base Q (asg (.region id ops draw)) G) a w:=fun vc G' R' hr hv hq =>
   wp_mono (YG (id:=id) hB hm (Q:=fun e G2 R2=>e=.normal/\G2=G'/\R2=R') hr hv ⟨rfl,rfl,rfl⟩ hs) (fun e a' w' hp=>by
    obtain⟨G2,R2,⟨rfl,rfl,rfl⟩,k2⟩:=hp
    exact⟨_,_,hq,YF (id:=id) hr,k2⟩)
  simp only[vwp] at h
  split at h
  ·rename_i G' R' hr;exact key [] G' R' hr trivial h
  ·rename_i vc G' R' _ hr;exact key vc G' R' hr h.1 h.2
  ·exact h.elim
 | seq x y ihx ihy =>
  intro A Q G R a w h hs
  refine wp_seq (wp_mono (ihx h hs) (fun e a' w' hq=>?_))
  obtain⟨G',R',k1,k2,k3⟩:=hq
  have hfr:Fr (asg (.seq x y)) G G':=fun s hs'=>k2 s (fun h'=>hs' (List.mem_append_left _ h'))
  cases e with
  | normal =>
   refine wp_mono (ihy k1 k3) (fun e2 a2 w2 hq2=>?_)
   obtain⟨G2,R2,j1,j2,j3⟩:=hq2
   exact⟨G2,R2,j1,k2.trans j2,j3⟩
  | _=>exact⟨G',R',k1,hfr,k3⟩
 | cond c t e iht ihe =>
  intro A Q G R a w h hs
  simp only[vwp] at h
  split at h<;>first|exact h.elim|skip
  rename_i b hk
  have h:=gU.1 h
  have hs2:=hs
  obtain⟨E,h0,h1,h2⟩:=hs2
  have hv:=(PY h2).2 c
  rw[hk] at hv
  refine wp_cond_split (vO hv) (fun hb=>wp_mono (iht (h.1 hb) hs) (fun e a' w' hq=>?_)) (fun hb=>wp_mono (ihe (h.2 hb) hs) (fun e a' w' hq=>?_))
  all_goals
   obtain⟨G',R',k1,k2,k3⟩:=hq
  ·exact⟨G',R',k1,fun s hs'=>k2 s (fun h'=>hs' (List.mem_append_left _ h')),k3⟩
  ·exact⟨G',R',k1,fun s hs'=>k2 s (fun h'=>hs' (List.mem_append_right _ h')),k3⟩
 | block id c ih =>
  intro A Q G R a w h hs
  refine wp_block (wp_mono (ih h hs) (fun e a' w' hq=>?_))
  obtain⟨G',R',k1,k2,k3⟩:=hq
  cases e with
  | exit i =>
   simp only[a6P] at k1
   simp only[Exit.inBlock]
   split
   ·rename_i e;rw[if_pos e] at k1;exact⟨G',R',k1,k2,k3⟩
   ·rename_i e;rw[if_neg e] at k1;exact⟨G',R',k1,k2,k3⟩
  | _=>exact⟨G',R',k1,k2,k3⟩
 | loop c ih =>
  intro A Q G R a w h hs
  simp only[vwp] at h
  split at h
  ·rename_i ι S Z m i0 sub rest
   obtain⟨h1,h2⟩:=h
   refine wp_loop_rounds (m i0+1) (UZ (B:=B) (fun i a w=>St B W base (S i++oV (cut ((S i).map (·.1)++(asg c++OA G R ((Z i0).map (·.1)))) G)) (Z i) a w) m (fun i a' w' hi=>?_) (m i0+1) i0 a w (by omega) (a2s hs (XK h1)))
   obtain⟨h3,h4⟩:=h2 i
   refine wp_mono (ih h4 hi) (fun e a2 w2 hq=>?_)
   obtain⟨G',R',k1,k2,k3⟩:=hq
   have hfr:Fr (asg c) G G':=(a3Z h3).two k2
   cases e with
   | normal =>
    obtain⟨i',k4,k5⟩:=k1
    obtain⟨k6,k7⟩:=bI.1 k5
    exact⟨i',k4,(a2s k3 (XK k7)).congr (fun s=>a5u hfr (fun s hs'=>List.mem_append_right _ (List.mem_append_left _ hs')) k6 s)⟩
   | _=>exact⟨G',R',k1,hfr,k3⟩
  ·rename_i n l sub rest
   refine wp_loop_rounds n ?_
   have key:∀ n G1 R a w,Fr (asg c) G G1->YP (vwp B c sub) (less (asg c) l) Q n G1 R->St B W base G1 R a w->Code.rounds B.P c (PostF B W base Q (asg (.loop c)) G) n a w:=by
    intro n
    induction n with
    | zero=>intro G1 R a w _ h _;exact h.elim
    | succ n ihn =>
     intro G1 R a w hf h hs
     rw[rounds_succ]
     refine wp_mono (ih h hs) (fun e a2 w2 hq=>?_)
     obtain⟨G',R',k1,k2,k3⟩:=hq
     have hfr:Fr (asg c) G G':=hf.two k2
     cases e with
     | normal =>
      refine ihn _ _ _ _ (fun s hs'=>?_) k1 (k3.cut (l:=less (asg c) l))
      have hns:s ∉ less (asg c) l:=fun h'=>hs' (List.mem_filter.1 h').1
      rw[lH hns]
      exact hfr s hs'
     | _=>exact⟨G',R',k1,hfr,k3⟩
   exact key n G R a w (Fr.refl _ _) h hs
  ·rename_i n l k sub rest
   refine wp_loop_rounds n ?_
   have key:∀ n G1 R a w,Fr (asg c) G G1->a3j (vwp B c sub) (asg c) l k Q n G1 R->St B W base G1 R a w->Code.rounds B.P c (PostF B W base Q (asg (.loop c)) G) n a w:=by
    intro n
    induction n with
    | zero=>intro G1 R a w _ h _;exact h.elim
    | succ n ihn =>
     intro G1 R a w hf h hs
     rw[rounds_succ]
     refine wp_mono (ih h hs) (fun e a2 w2 hq=>?_)
     obtain⟨G',R',k1,k2,k3⟩:=hq
     have hfr:Fr (asg c) G G':=hf.two k2
     cases e with
     | normal =>
      obtain⟨k4,k5,k6⟩:=k1
      refine ihn _ _ _ _ (fun s hs'=>?_) k6 (a2s k3 (XK k4))
      exact(hfr.two (a3Z k5)) s hs'
     | _=>exact⟨G',R',k1,hfr,k3⟩
   exact key n G R a w (Fr.refl _ _) h hs
  ·exact h.elim
 | scope c ih=>intro A Q G R a w h hs;simp only[vwp] at h
 | goto l=>intro A Q G R a w h hs;simp only[vwp] at h
 | rangeFunc f ps x y _ _=>intro A Q G R a w h hs;simp only[vwp] at h
 | refuse s=>intro A Q G R a w h hs;simp only[vwp] at h
end
attribute [irreducible] vwp
end Go.Proofs.YtidfgdchcpmnfaaGreat
