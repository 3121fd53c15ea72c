/-
  Lemmas for the theorem vdecomposes28_holds, part 15 of 34.
-/
import Derived.LoopN
import Derived.Test.YtbkocjmmbkifjaaGreatQd14
namespace Go.Proofs.YtbkocjmmbkifjaaGreat
open Go Go.RowKit
theorem Bq:type_of% @wp_mono:=@wp_mono
section
set_option linter.unusedSimpArgs false
set_option linter.unusedVariables false
set_option maxRecDepth 20000
def iZ (B:Book) (ops:Array Oper) (draw:Bool) (G:Gam) (R:Rho):Option (List Cd × Gam × Rho) :=
 if draw then (match yM B ops ops.toList G R with
  | some (vc,ss,G',R')=>if sQ .any ops&&a3z ops (Region.before ops) ss&&b0E ops (Region.before ops) then some (vc,G',R') else none
  | none=>none)
 else yK B ops ops.toList G R
def asg:Code->List Nat
 | .region _ ops _=>ops.toList.filterMap (·.dst)
 | .seq a b=>asg a++asg b
 | .cond _ a b=>asg a++asg b
 | .block _ c=>asg c
 | .loop c=>asg c
 | .scope c=>asg c
 | .rangeFunc _ ps a b=>ps.toList++asg a++asg b
 | _=>[]
def cut (l:List Nat) (G:Gam):Gam:=G.filter fun p=>!l.contains p.1
def Res.isNil:Res->Prop
 | .row _ _ xs 0=>xs=[]
 | .mat _ _ _ Option.none xss 0=>xss=[]
 | _=>False
def Res.isNil':Res->Prop
 | .none=>True
 | _=>False
def Res.JM:Res->Bool
 | .none=>true
 | .gone=>true
 | _=>false
def QC:Res->Res->Prop
 | .mat _ _ _ ids xss _,.mat _ _ _ qJ yss _=>ids=qJ/\xss.length=yss.length
 | _,_=>False
def SX (R R':Rho):List K0->List K0->Prop
 | [],[]=>True
 | .val t x::ks,.val t' y::ks'=>fZ t t' x=some y/\SX R R' ks ks'
 | .ptr r o::ks,.ptr r' o'::ks'=>(r=r'/\o=o'/\(aS R r).nV/\(aS R' r).nV)/\SX R R' ks ks'
 | .lY r::ks,.lY r'::ks'=>(r=r'/\(aS R' r).EI/\((aS R' r).mJ->(aS R r).mJ))/\SX R R' ks ks'
 | _,_=>False
def leK (R R':Rho):K->K->Prop
 | _,.any=>True
 | .val t x,.val t' y=>fZ t t' x=some y
 | .nil,.nil=>True
 | .nil,.own r 0=>(aS R r).isNil'/\(aS R' r).isNil
 | .nil,.val (.list t) ys=>(ys:List t.den)=[]
 | .ptr r o,.ptr r' o'=>r=r'/\o=o'/\(aS R r).nV/\(aS R' r).nV
 | .own r v,.own r' v'=>r=r'/\v'=0/\Res.isRow v (aS R r)/\Res.isRow 0 (aS R' r)
 | .cell r v i,.cell r' v' i'=>r=r'/\i=i'/\v'=0/\Res.isRow v (aS R r)/\Res.isRow 0 (aS R' r)/\(aS R r).esz=(aS R' r).esz
 | .mrow r v i,.mrow r' v' i'=>r=r'/\i=i'/\v'=0/\Res.mY v (aS R r)/\Res.mY 0 (aS R' r)/\QC (aS R r) (aS R' r)
 | .mpos r v i j,.mpos r' v' i' j'=>(r=r'/\i=i'/\j=j'/\v'=0/\Res.mY v (aS R r)/\Res.mY 0 (aS R' r))/\QC (aS R r) (aS R' r)/\(aS R r).msz=(aS R' r).msz
 | .lY r,.lY r'=>r=r'/\(aS R' r).EI/\((aS R' r).mJ->(aS R r).mJ)
 | .fn g ks,.fn g' ks'=>g=g'/\SX R R' ks ks'
 | _,_=>False
def leP:List Part->List Part->Prop
 | [],[]=>True
 | p::ps,q::qs=>fZ p.t q.t p.x=some q.x/\leP ps qs
 | _,_=>False
def leM {t t':Ty} (ids qJ:Option (List Nat)) (xss:List (List t.den)) (yss:List (List t'.den)):Prop:=match ids,qJ with
 | some l,none=>l.Nodup/\fZ (.list (.list t)) (.list (.list t')) (l.map fun i=>xss.getD i [])=some yss
 | _,_=>ids=qJ/\fZ (.list (.list t)) (.list (.list t')) xss=some yss
def leR (R R':Rho):Res->Res->Prop
 | _,.none=>True
 | .box ps,.box qs=>leP ps qs
 | .row e t xs _,.row e' t' ys v=>e=e'/\v=0/\fZ (.list t) (.list t') xs=some ys
 | .mat e _ t none xss _,.row e' t' ys v=>e=e'/\v=0/\fZ (.list (.list t)) (.list t') xss=some ys
 | .fro t xs _,.fro t' ys v=>v=0/\fZ (.list t) (.list t') xs=some ys
 | .none,.row _ t ys v=>(ys:List t.den)=[]/\v=0/\t.still=true
 | .mat e e2 t ids xss _,.mat e' e2' t' qJ yss v=>e=e'/\e2=e2'/\v=0/\leM ids qJ xss yss
 | .none,.mat _ _ t ids yss v=>ids=none/\(yss:List (List t.den))=[]/\v=0/\t.still=true
 | .kJ k,.kJ k'=>k'.one=true/\leK R R' k k'
 | .kJ _,.gone=>True
 | .gone,.gone=>True
 | _,_=>False
def iW:K->K
 | .own r _=>.own r 0
 | .cell r _ i=>.cell r 0 i
 | .mrow r _ i=>.mrow r 0 i
 | .mpos r _ i j=>.mpos r 0 i j
 | .when b k=>if k.res.isEmpty then .when b k else .any
 | .mix l=>if (K.mix l).res.isEmpty then .mix l else .any
 | .sng _ _=>.any
 | .pls l=>if (K.pls l).res.isEmpty then .pls l else .any
 | .pcl l i=>if (K.pcl l i).res.isEmpty then .pcl l i else .any
 | k=>k
theorem a3K {k:K} (h:k.res=[]):iW k=k:=by
 cases k<;>first|rfl|(simp[K.res] at h;done)|skip
 ·show (if _ then _ else _)=_;rw[iw (by simpa [K.res] using h)]
 ·show (if _ then _ else _)=_;rw[iw (by rw[h];rfl)]
 ·show (if _ then _ else _)=_;rw[iw (by rw[h];rfl)]
 ·show (if _ then _ else _)=_;rw[iw (by rw[h];rfl)]
theorem VY (k:K):iW (iW k)=iW k:=by
 cases k<;>first|rfl|skip
 ·rename_i b k
  show iW (if k.res.isEmpty then .when b k else .any)=if k.res.isEmpty then .when b k else .any
  split
  ·rename_i h;show (if _ then _ else _)=_;rw[iw h]
  ·rfl
 ·rename_i l
  show iW (if (K.mix l).res.isEmpty then .mix l else .any)=if (K.mix l).res.isEmpty then .mix l else .any
  split
  ·rename_i h;show (if _ then _ else _)=_;rw[iw h]
  ·rfl
 ·rename_i l
  show iW (if (K.pls l).res.isEmpty then .pls l else .any)=if (K.pls l).res.isEmpty then .pls l else .any
  split
  ·rename_i h;show (if _ then _ else _)=_;rw[iw h]
  ·rfl
 ·rename_i l i
  show iW (if (K.pcl l i).res.isEmpty then .pcl l i else .any)=if (K.pcl l i).res.isEmpty then .pcl l i else .any
  split
  ·rename_i h;show (if _ then _ else _)=_;rw[iw h]
  ·rfl
def qN (G:Gam):Gam:=G.map fun p=>(p.1,iW p.2)
theorem uK:∀ (G:Gam) (s:Nat),aY (qN G) s=iW (aY G s)
 | [],s=>rfl
 | (q,k)::G,s=>by
  show (if s=q then iW k else aY (qN G) s)=iW (if s=q then k else aY G s)
  split
  ·rfl
  ·exact uK G s
def St (B:Book) (W:World) (base:Fix) (G:Gam) (R:Rho) (a:Act) (w:World):Prop:=∃ E:Env,E.fix=base/\Mem E (aS R) W w/\Fits E (aS R) w B a (aY G)
section
variable {B:Book} {W:World} {base:Fix}
theorem zU {l:List Nat}:∀ (G:Gam) (s:Nat),aY (cut l G) s=aY G s\/aY (cut l G) s=.any
 | [],s=>.inl rfl
 | (q,k)::G,s=>by
  unfold cut
  rw[List.filter_cons]
  split
  ·simp only[aY]
   split
   ·exact .inl rfl
   ·exact zU G s
  ·rename_i hq
   simp only[aY]
   split
   ·rename_i e
    subst e
    right
    have hq:l.contains s=true:=by simpa using hq
    have:∀ (G:Gam),aY (G.filter fun p=>!l.contains p.1) s=.any:=by
     intro G
     induction G with
     | nil=>rfl
     | cons p G ih =>
      rw[List.filter_cons]
      split
      ·rename_i hp
       simp only[aY]
       split
       ·rename_i e;rw[<-e,hq] at hp;cases hp
       ·exact ih
      ·exact ih
    exact this G
   ·exact zU G s
theorem St.cut {l:List Nat} {G:Gam} {R:Rho} {a:Act} {w:World} (h:St B W base G R a w):St B W base (cut l G) R a w:=by
 obtain⟨E,h0,h1,h2⟩:=h
 refine⟨E,h0,h1,h2.size,h2.defers,fun s=>?_,fun s=>?_,h2.par⟩
 ·rcases zU (l:=l) G s with e|e
  ·rw[e];exact h2.wf s
  ·rw[e];trivial
 ·rcases zU (l:=l) G s with e|e
  ·rw[e];exact h2.holds s
  ·rw[e];trivial
theorem RY:∀ (G:Gam) (s:Nat),aY G s=.any\/∃ p ∈ G,p.1=s
 | [],s=>.inl rfl
 | (q,k)::G,s=>by
  simp only[aY]
  split
  ·rename_i e;exact .inr ⟨_,jd ..,e.symm⟩
  ·rcases RY G s with h|⟨p,h1,h2⟩
   ·exact .inl h
   ·exact .inr ⟨p,iy _ h1,h2⟩
theorem a1C:∀ (R:Rho) (s:Nat),aS R s=.none\/∃ p ∈ R,p.1=s
 | [],s=>.inl rfl
 | (q,k)::R,s=>by
  simp only[aS]
  split
  ·rename_i e;exact .inr ⟨_,jd ..,e.symm⟩
  ·rcases a1C R s with h|⟨p,h1,h2⟩
   ·exact .inl h
   ·exact .inr ⟨p,iy _ h1,h2⟩
theorem SY {F:Nat->Prop} {w:World}:∀ {ps qs:List Part} {cs:List Value},leP ps qs->chunks (iK F w) cs ps->chunks (iK F w) cs qs
 | [],[],_,_,h=>h
 | p::ps,q::qs,cs,⟨h1,h2⟩,⟨c1,c2,k1,k2,k3⟩=>by
  refine⟨c1,c2,k1,?_,SY h2 k3⟩
  obtain⟨pt,px⟩:=p
  obtain⟨qt,qx⟩:=q
  obtain⟨e,h3⟩:=dQ h1
  simp only at e
  subst e
  have h3:px=qx:=h3
  subst h3
  exact k2
 | [],_::_,_,h,_=>h.elim
 | _::_,[],_,h,_=>h.elim
def SH (E:Env) (r:Nat):Option (List Nat)->Option (List Nat)->Nat->Value
 | some l,none,i=>match l[i]? with
  | some j=>E.inn r j
  | none=>undef
 | _,_,i=>E.inn r i
def vU (E:Env) (r:Nat):Res->Res->Nat->Value
 | .mat _ _ _ ids _ _,.mat _ _ _ qJ _ _,i=>SH E r ids qJ i
 | _,_,_=>undef
def gY (E:Env) (R R':Rho):Env:=⟨fun r=>if (aS R' r).JM then none else E.blk r,fun r=>if (aS R r).isNone then .slice none 0 0 else E.sl r,E.base,fun r=>vU E r (aS R r) (aS R' r),E.pI,E.par⟩
theorem a6Z {E:Env} {r:Nat} {x y:Res} {i q:Nat} (h:bI (vU E r x y i)=some q):∃ j,bI (E.inn r j)=some q:=by
 unfold vU at h
 split at h
 ·unfold SH at h
  split at h
  ·split at h
   ·exact⟨_,h⟩
   ·cases h
  ·exact⟨_,h⟩
 ·cases h
theorem TA {E:Env} {R R':Rho} {r j q:Nat} (h:(gY E R R').has r j q):∃ j',E.has r j' q/\(j=0↔j'=0):=by
 cases j with
 | zero =>
  have h:(if (aS R' r).JM then none else E.blk r)=some q:=h
  split at h
  ·cases h
  ·exact⟨0,h,Iff.rfl⟩
 | succ i =>
  obtain⟨j,h⟩:=a6Z h
  exact⟨j+1,h,by simp⟩
theorem b0j {t t':Ty} {ids qJ:Option (List Nat)} {xss:List (List t.den)} {yss:List (List t'.den)} (h:leM ids qJ xss yss) (hn:∀ l,ids=some l->qJ≠none):ids=qJ/\fZ (.list (.list t)) (.list (.list t')) xss=some yss:=by
 unfold leM at h
 split at h
 ·exact absurd rfl (hn _ rfl)
 ·exact h
theorem a7a {E:Env} {r:Nat} {R R':Rho} {x y:Res} {i i' q:Nat} (hE:∀ a c,bI (E.inn r a)=some q->bI (E.inn r c)=some q->a=c) (h:leR R R' x y) (e1:bI (vU E r x y i)=some q) (e2:bI (vU E r x y i')=some q):i=i':=by
 cases x<;>first|(cases y<;>cases e1;done)|skip
 cases y<;>first|(cases e1;done)|skip
 rename_i e0 e02 t0 a6V xss v0 el el2 t ids yss v
 by_cases hn:∃ l,a6V=some l/\ids=none
 ·obtain⟨l,rfl,rfl⟩:=hn
  have hnd:l.Nodup:=h.2.2.2.1
  simp only[vU,SH] at e1 e2
  split at e1<;>first|(cases e1;done)|skip
  rename_i a ha
  split at e2<;>first|(cases e2;done)|skip
  rename_i c hc
  have hac:=hE a c e1 e2
  subst hac
  obtain⟨i1,i2⟩:=jq.1 ha
  obtain⟨i3,i4⟩:=jq.1 hc
  rcases Nat.lt_trichotomy i i' with hl|hl|hl
  ·exact absurd (i2.trans i4.symm) (List.pairwise_iff_getElem.1 hnd i i' i1 i3 hl)
  ·exact hl
  ·exact absurd (i4.trans i2.symm) (List.pairwise_iff_getElem.1 hnd i' i i3 i1 hl)
 ·have hin:∀ i,vU E r (.mat e0 e02 t0 a6V xss v0) (.mat el el2 t ids yss v) i=E.inn r i:=fun i=>by
   cases a6V with
   | none=>rfl
   | some l=>cases ids with
    | none=>exact absurd ⟨l,rfl,rfl⟩ hn
    | some l'=>rfl
  rw[hin] at e1 e2
  exact hE i i' e1 e2
theorem a3o {E:Env} {R R':Rho} {w:World} (hF:∀ b,fz w E b->fz w (gY E R R') b) {k k':K} {v:Value} (hl:leK R R' k k') (hw:k.wf (aS R)) (hk:k.holds E (aS R) w v):k'.wf (aS R')/\k'.holds (gY E R R') (aS R') w v:=by
 have hsl:∀ r,(aS R r).isNone=false->(gY E R R').sl r=E.sl r:=fun r hn=>by
  show (if (aS R r).isNone then _ else _)=_;rw[hn];rfl
 have hblk:∀ r,(aS R' r).JM=false->(gY E R R').blk r=E.blk r:=fun r hn=>by
  show (if (aS R' r).JM then none else E.blk r)=_;rw[hn];rfl
 have hrn:∀ v r,Res.isRow v (aS R r)->(aS R r).isNone=false:=fun v r h=>by
  cases e3:aS R r<;>rw[e3] at h<;>first|exact h.elim|rfl
 have b7A:∀ r,Res.isRow 0 (aS R' r)->Res.eF 0 (aS R' r):=fun r h=>by
  cases e3:aS R' r<;>rw[e3] at h<;>first|exact h.elim|exact qm _
 have b6h:∀ r,Res.mY 0 (aS R' r)->Res.eF 0 (aS R' r):=fun r h=>by
  cases e3:aS R' r<;>rw[e3] at h<;>first|exact h.elim|exact qm _
 have hcnt:∀ r,QC (aS R r) (aS R' r)->(aS R r).cnt=(aS R' r).cnt/\(gY E R R').inn r=E.inn r:=fun r h=>by
  have:(gY E R R').inn r=vU E r (aS R r) (aS R' r):=rfl
  rw[this]
  cases e3:aS R r<;>rw[e3] at h<;>first|exact h.elim|skip
  cases e4:aS R' r<;>rw[e4] at h<;>first|exact h.elim|skip
  obtain⟨h1,h2⟩:=h
  subst h1
  refine⟨h2,?_⟩
  funext i
  rename_i ids _ _ _ _ _ _ _
  cases ids<;>rfl
 cases k' with
 | any=>exact⟨trivial,trivial⟩
 | val t y =>
  cases k<;>first|exact hl.elim|skip
  ·obtain⟨rfl,rfl⟩:=dQ hl
   exact⟨trivial,fM hF (jB.refl _ _) hk⟩
  ·cases t<;>first|exact hl.elim|skip
   have hl:y=[]:=hl
   subst hl
   exact⟨trivial,[.slice none 0 0],hk,none,0,rfl,by simp,by omega,.inl rfl⟩
 | nil=>cases k<;>first|exact hl.elim|exact⟨trivial,hk⟩
 | ptr r o =>
  cases k<;>first|exact hl.elim|skip
  obtain⟨rfl,rfl,j1,j2⟩:=hl
  obtain⟨b,n1,n2⟩:=hk
  refine⟨j2,b,?_,n2⟩
  rw[hblk _ (by cases e3:aS R' _<;>rw[e3] at j2<;>first|exact j2.elim|rfl)];exact n1
 | own r v =>
  cases v with
  | succ n =>
   cases k<;>first|exact hl.elim|skip
   obtain⟨_,j2,_⟩:=hl
   cases j2
  | zero =>
   cases k<;>first|exact hl.elim|skip
   ·obtain⟨j1,j2⟩:=hl
    refine⟨?_,fun _=>?_⟩
    ·show Res.eF 0 (aS R' r)
     cases e3:aS R' r<;>rw[e3] at j2<;>first|exact j2.elim|exact qm _
    ·have:(gY E R R').sl r=.slice none 0 0:=by
      show (if (aS R r).isNone then _ else _)=_
      cases e3:aS R r<;>rw[e3] at j1<;>first|exact j1.elim|rfl
     rw[this];exact hk
   ·obtain⟨rfl,_,j1,j2⟩:=hl
    exact⟨b7A _ j2,fun _=>by rw[hsl _ (hrn _ _ j1)];exact hk j1⟩
 | cell r v i =>
  cases k<;>first|exact hl.elim|skip
  obtain⟨rfl,rfl,rfl,j1,j2,j3⟩:=hl
  refine⟨b7A _ j2,fun _=>?_⟩
  rw[hsl _ (hrn _ _ j1),<-j3]
  exact hk j1
 | mrow r v i =>
  cases k<;>first|exact hl.elim|skip
  obtain⟨rfl,rfl,rfl,j1,j2,j3⟩:=hl
  obtain⟨c1,c2⟩:=hcnt _ j3
  refine⟨⟨b6h _ j2,fun _=>?_⟩,fun _=>?_⟩
  ·rw[<-c1];exact hw.2 j1
  ·rw[c2];exact hk j1
 | mpos r v i j =>
  cases k<;>first|exact hl.elim|skip
  obtain⟨⟨rfl,rfl,rfl,rfl,j1,j2⟩,j3,j4⟩:=hl
  obtain⟨c1,c2⟩:=hcnt _ j3
  refine⟨⟨b6h _ j2,fun _=>?_⟩,fun _=>?_⟩
  ·rw[<-c1];exact hw.2 j1
  ·rw[c2,<-j4];exact hk j1
 | lY r =>
  cases k<;>first|exact hl.elim|skip
  obtain⟨rfl,j1,j2⟩:=hl
  refine⟨j1,fun hb=>?_⟩
  rw[hblk _ (by cases e3:aS R' _<;>rw[e3] at hb<;>first|exact hb.elim|rfl)]
  exact hk (j2 hb)
 | when b k=>cases k<;>exact(by cases ‹K›<;>exact hl.elim)
 | tup ts x=>cases k<;>exact hl.elim
 | mix ks=>cases k<;>exact hl.elim
 | sng r v=>cases k<;>exact hl.elim
 | pls ks=>cases k<;>exact hl.elim
 | pcl ks i=>cases k<;>exact hl.elim
 | fn g ks' =>
  cases k<;>first|exact hl.elim|skip
  rename_i ks
  obtain⟨rfl,hl⟩:=hl
  obtain⟨vs,rfl,hk⟩:=hk
  have:∀ (ks ks':List K0) (vs:List Value),SX R R' ks ks'->lC (fz w E) E (aS R) w ks vs->(∀ k ∈ ks',JE (aS R') k)/\lC (fz w (gY E R R')) (gY E R R') (aS R') w ks' vs:=by
   intro ks
   induction ks with
   | nil =>
    intro ks' vs hl hk
    cases ks' with
    | nil=>exact⟨fun k h=>(by cases h),hk⟩
    | cons _ _=>exact hl.elim
   | cons k ks ih =>
    intro ks' vs hl ⟨v,vs',e1,e2,e3⟩
    cases ks' with
    | nil=>cases k<;>exact hl.elim
    | cons k' ks' =>
     have key:SX R R' ks ks'->JE (aS R') k'->a5k (fz w (gY E R R')) (gY E R R') (aS R') w k' v->(∀ k ∈ k'::ks',JE (aS R') k)/\lC (fz w (gY E R R')) (gY E R R') (aS R') w (k'::ks') vs:=fun h1 h2 h3=>by
      obtain⟨i1,i2⟩:=ih ks' vs' h1 e3
      refine⟨fun k hk=>?_,v,vs',e1,h3,i2⟩
      rcases jw.1 hk with rfl|hk
      ·exact h2
      ·exact i1 k hk
     cases k<;>cases k'<;>first|exact hl.elim|skip
     ·obtain⟨h1,h2⟩:=hl
      obtain⟨rfl,rfl⟩:=dQ h1
      exact key h2 trivial (fM hF (jB.refl _ _) e2)
     ·obtain⟨⟨rfl,rfl,j1,j2⟩,h2⟩:=hl
      obtain⟨b,n1,n2⟩:=e2
      exact key h2 j2 ⟨b,by rw[hblk _ (by cases e3:aS R' _<;>rw[e3] at j2<;>first|exact j2.elim|rfl)];exact n1,n2⟩
     ·obtain⟨⟨rfl,j1,j2⟩,h2⟩:=hl
      exact key h2 j1 (fun hb=>by
       rw[hblk _ (by cases e3:aS R' _<;>rw[e3] at hb<;>first|exact hb.elim|rfl)]
       exact e2 (j2 hb))
  obtain⟨q1,q2⟩:=this ks ks' vs hl hk
  exact⟨q1,vs,rfl,q2⟩
theorem b6r {G G':Gam} {R R':Rho} {a:Act} {w:World} (h:St B W base G R a w) (hk:∀ s,leK R R' (aY G s) (aY G' s)\/(aY G' s=aY G s/\(aY G s).res=[])) (hr:∀ r,leR R R' (aS R r) (aS R' r)):St B W base G' R' a w:=by
 obtain⟨E,h0,h1,h2⟩:=h
 have hF:∀ q,fz w E q->fz w (gY E R R') q:=fun q hq=>rD hq.1.1 hq.1.2 (fun r j e=>by
  obtain⟨j',e',_⟩:=TA e
  exact rQ hq r j' e')
 have hs:=jB.refl (fz w E) w
 have a1I:∀ (ks:List K0) (vs:List Value),(∀ k ∈ ks,AO k=[])->lC (fz w E) E (aS R) w ks vs->lC (fz w (gY E R R')) (gY E R R') (aS R') w ks vs:=by
  intro ks
  induction ks with
  | nil=>intro vs _ h;exact h
  | cons k ks ih =>
   intro vs hk ⟨v,vs',e1,e2,e3⟩
   refine⟨v,vs',e1,?_,ih vs' (fun k hk'=>hk k (iy _ hk')) e3⟩
   have h0:=hk k (jd ..)
   cases k with
   | val t x=>exact fM hF hs e2
   | _=>simp[AO] at h0
 have hsl:∀ r,(aS R r).isNone=false->(gY E R R').sl r=E.sl r:=fun r hn=>by
  show (if (aS R r).isNone then _ else _)=_;rw[hn];rfl
 have hblk:∀ r,(aS R' r).JM=false->(gY E R R').blk r=E.blk r:=fun r hn=>by
  show (if (aS R' r).JM then none else E.blk r)=_;rw[hn];rfl
 have c3w:∀ r,(aS R' r).JM=true->(gY E R R').blk r=none:=fun r hn=>by
  show (if (aS R' r).JM then none else E.blk r)=_;rw[hn];rfl
 have zW:∀ r i,(gY E R R').inn r i=vU E r (aS R r) (aS R' r) i:=fun _ _=>rfl
 have hnil:∀ r,mF E w r Res.none->(gY E R R').sl r=.slice none 0 0->(aS R' r).JM=false->(gY E R R').blk r=bI ((gY E R R').sl r):=fun r k2 hsl hn=>by
  rw[hblk r hn,hsl];exact k2
 have hres:∀ r,mF (gY E R R') w r (aS R' r):=fun r=>by
  have k2:=h1.res r
  have k1:=hr r
  cases e':aS R' r with
  | none=>exact c3w r (by rw[e'];rfl)
  | gone=>exact c3w r (by rw[e'];rfl)
  | kJ k=>trivial
  | box qs =>
   rw[e'] at k1
   cases e:aS R r<;>rw[e] at k1<;>first|exact k1.elim|skip
   rw[e] at k2
   obtain⟨b,cs,el,j1,j3,j4⟩:=k2
   exact⟨b,cs,el,(hblk r (by rw[e'];rfl)).trans j1,j3,SY k1 (aW (fun c p=>iK.mono hF hs) _ _ j4)⟩
  | row el t ys v =>
   rw[e'] at k1
   cases e:aS R r<;>rw[e] at k1<;>first|exact k1.elim|skip
   ·rw[e] at k2
    obtain⟨j1,j2,j3⟩:=k1
    have hsl:(gY E R R').sl r=.slice none 0 0:=by show (if (aS R r).isNone then _ else _)=_;rw[e];rfl
    refine⟨hnil r k2 hsl (by rw[e'];rfl),j3,[],?_,?_,?_⟩
    ·rw[hsl,j1];exact Az w _ _ _
    ·rw[j1];exact rfl
    ·exact⟨by rw[hsl];exact fun g hg=>(by cases hg),by rw[j2];exact a2a _⟩
   ·rename_i el0 t0 xs v0
    rw[e] at k2
    obtain⟨j1,j2,j3⟩:=k1
    subst j1
    obtain⟨ee,j3⟩:=dQ j3
    simp only[Ty.list.injEq] at ee
    subst ee
    have j3:xs=ys:=j3
    subst j3
    obtain⟨n1,n2,cs,n3,n4,n5⟩:=k2
    have hsl:=hsl r (by rw[e];rfl)
    exact⟨by rw[hblk r (by rw[e'];rfl),hsl];exact n1,n2,cs,by rw[hsl];exact n3,aW (fun c y=>bT hF hs t0 c y) _ _ n4,by rw[hsl];exact n5.1,by rw[j2];exact a2a _⟩
   ·rename_i el0 el2 t0 ids xss v0
    cases ids<;>first|exact k1.elim|skip
    rw[e] at k2
    obtain⟨j1,j2,j3⟩:=k1
    subst j1
    obtain⟨ee,j3⟩:=dQ j3
    simp only[Ty.list.injEq] at ee
    subst ee
    have j3:xss=ys:=j3
    subst j3
    obtain⟨n1,n2,⟨cs,n3,n4,n5⟩,n6,n7,n8⟩:=k2
    have hsl:=hsl r (by rw[e];rfl)
    have hlen:(bZ (α:=List t0.den) none xss).length=List.length (α:=(Ty.list t0).den) xss:=by simp only[bZ,jy];rfl
    rw[hlen] at n3
    have hfz:∀ j g,E.has r (j+1) g->fz w (gY E R R') g:=fun j g hh=>by
     refine rD (h1.lt hh) (h1.base _ (h1.mine r (j+1) g hh)) (fun r' j' e9=>?_)
     obtain⟨j2,e8,e7⟩:=TA e9
     obtain⟨rfl,rfl⟩:=h1.inj _ _ _ _ _ e8 hh
     cases j' with
     | zero=>have:=e7.1 rfl;omega
     | succ i =>
      have e9:bI (vU E r' (aS R r') (aS R' r') i)=some g:=e9
      rw[e,e'] at e9
      cases e9
    have hrow:∀ i xs,xss[i]?=some xs->rep (fz w (gY E R R')) w (.list t0) [E.inn r i] xs:=fun i xs hi=>by
     obtain⟨ds,q1,q2,q3⟩:=n8 i xs hi
     obtain⟨cs9,e9,r9⟩:=kG (E:=E) (F:=fz w (gY E R R')) q1 (aW (fun c y=>bT hF hs t0 c y) _ _ q2) (fun g hg=>hfz i g hg)
     have r8:=r9
     obtain⟨p9,c9,e8,_⟩:=r9
     have e7:cs9=[E.inn r i]:=by
      have:E.inn r i=cs9.headD undef:=e9
      rw[this,e8];rfl
     rw[<-e7];exact r8
    refine⟨by rw[hblk r (by rw[e'];rfl),hsl];exact n1,rfl,cs,by rw[hsl];exact n3,?_,by rw[hsl];exact n5,by rw[j2];exact a2a _⟩
    rw[n4]
    show chunks _ ((List.range xss.length).map (E.inn r)) xss
    exact vM _ _ hrow
  | fro t ys v =>
   rw[e'] at k1
   cases e:aS R r<;>rw[e] at k1<;>first|exact k1.elim|skip
   rename_i t0 xs v0
   rw[e] at k2
   obtain⟨j2,j3⟩:=k1
   obtain⟨ee,j3⟩:=dQ j3
   simp only[Ty.list.injEq] at ee
   subst ee
   have j3:xs=ys:=j3
   subst j3
   exact⟨(hblk r (by rw[e'];rfl)).trans k2.1,by rw[hsl r (by rw[e];rfl)];exact fM hF hs k2.2⟩
  | mat el el2 t ids yss v =>
   rw[e'] at k1
   cases e:aS R r<;>rw[e] at k1<;>first|exact k1.elim|skip
   ·rw[e] at k2
    obtain⟨rfl,j1,j2,j3⟩:=k1
    have hsl:(gY E R R').sl r=.slice none 0 0:=by show (if (aS R r).isNone then _ else _)=_;rw[e];rfl
    have hin:∀ i,bI ((gY E R R').inn r i)=none:=fun i=>by rw[zW,e,e'];rfl
    subst j1
    refine⟨hnil r k2 hsl (by rw[e'];rfl),j3,⟨[],?_,rfl,?_⟩,fun i hi=>?_,fun i _=>hin i,fun i xs hi=>?_⟩
    ·rw[hsl];exact Az w _ _ _
    ·rw[hsl];intro g hg;cases hg
    ·simp[bZ] at hi
    ·simp at hi
   ·rename_i el0 c6Y t0 a6V xss v0
    rw[e] at k2
    obtain⟨j1,j2,j3,j4⟩:=k1
    subst j1 j2
    obtain⟨n1,n2,⟨cs,n3,n4,n5⟩,n6,n7,n8⟩:=k2
    have hsl:=hsl r (by rw[e];rfl)
    have hbl:=hblk r (by rw[e'];rfl)
    by_cases hn:∃ l,a6V=some l/\ids=none
    ·obtain⟨l,rfl,rfl⟩:=hn
     obtain⟨j4,j5⟩:=j4
     obtain⟨ee,j5⟩:=dQ j5
     simp only[Ty.list.injEq] at ee
     subst ee
     have j5:(l.map fun i=>xss.getD i [])=yss:=j5
     have hlen:yss.length=l.length:=by rw[<-j5];simp
     have hin:∀ i j,l[i]?=some j->(gY E R R').inn r i=E.inn r j:=fun i j hi=>by rw[zW,e,e'];simp only[vU,SH,hi]
     have hin0:∀ i,l[i]?=none->bI ((gY E R R').inn r i)=none:=fun i hi=>by rw[zW,e,e'];simp only[vU,SH,hi];rfl
     refine⟨by rw[hbl,hsl];exact n1,n2,⟨cs,?_,?_,by rw[hsl];exact n5⟩,fun i hi=>by simpa [bZ] using hi,fun i hi=>hin0 i (qw (by omega)),fun i xs hi=>?_⟩
     ·rw[hsl]
      have:(bZ (none:Option (List Nat)) yss).length=(bZ (some l) xss).length:=by simp[bZ,hlen]
      rw[this];exact n3
     ·rw[n4]
      simp only[bZ]
      apply List.ext_getElem?
      intro i
      rw[qj,qj,hlen]
      by_cases hi:i<l.length
      ·rw[Bc hi,bn hi]
       simp only[Option.map_some]
       rw[hin i l[i] (bn hi)]
      ·rw[qw (by simpa using hi),qw (l:=List.range l.length) (by simpa using hi)]
       rfl
     ·rw[<-j5,qj] at hi
      cases hj:l[i]? with
      | none=>rw[hj] at hi;cases hi
      | some j =>
       rw[hj] at hi
       simp only[Option.map_some,ah] at hi
       have hjl:j<xss.length:=n6 j (by simp only[bZ];exact Bz hj)
       obtain⟨ds,q1,q2,q3⟩:=n8 j xs (by rw[<-hi,bf,bn hjl];rfl)
       exact⟨ds,by rw[hin i j hj];exact q1,aW (fun c y=>bT hF hs t0 c y) _ _ q2,by rw[hin i j hj];exact q3⟩
    ·obtain⟨j4,j5⟩:=b0j j4 (fun l e1 e2=>hn ⟨l,e1,e2⟩)
     subst j4
     obtain⟨ee,j5⟩:=dQ j5
     simp only[Ty.list.injEq] at ee
     subst ee
     have j5:xss=yss:=j5
     subst j5
     have hin:(gY E R R').inn r=E.inn r:=by
      funext i
      rw[zW,e,e']
      cases a6V<;>rfl
     exact⟨by rw[hbl,hsl];exact n1,n2,⟨cs,by rw[hsl];exact n3,by rw[hin];exact n4,by rw[hsl];exact n5⟩,n6,by rw[hin];exact n7,fun i xs hi=>by
      obtain⟨ds,q1,q2,q3⟩:=n8 i xs hi
      exact⟨ds,by rw[hin];exact q1,aW (fun c y=>bT hF hs t0 c y) _ _ q2,by rw[hin];exact q3⟩⟩
 refine⟨gY E R R',h0,⟨h1.below,hres,fun r j r' j' q e1 e2=>?_,fun r j b e=>?_,h1.base,fun r i hi=>?_,fun r k e'=>?_,h1.dig⟩,h2.size,h2.defers,fun s=>?_,fun s=>?_,h2.par⟩
 ·obtain⟨i,f1,g1⟩:=TA e1
  obtain⟨i',f2,g2⟩:=TA e2
  obtain⟨rfl,rfl⟩:=h1.inj _ _ _ _ _ f1 f2
  refine⟨rfl,?_⟩
  cases j with
  | zero=>cases j' with
   | zero=>rfl
   | succ j'=>exact absurd (g2.2 (g1.1 rfl)) (by simp)
  | succ j=>cases j' with
   | zero=>exact absurd (g1.2 (g2.1 rfl)) (by simp)
   | succ j' =>
    have e1:bI (vU E r (aS R r) (aS R' r) j)=some q:=e1
    have e2:bI (vU E r (aS R r) (aS R' r) j')=some q:=e2
    rw[a7a (fun a c ha hc=>by have:=(h1.inj r (a+1) r (c+1) q ha hc).2;omega) (hr r) e1 e2]
 ·obtain⟨j',e',_⟩:=TA e
  exact h1.mine r j' b e'
 ·have k1:=hres r
  cases e':aS R' r with
  | mat el el2 t ids yss v =>
   rw[e'] at k1 hi
   exact k1.2.2.2.2.1 i hi
  | _=>rw[zW,e'];cases aS R r<;>rfl
 ·have k1:=hr r
  rw[e'] at k1
  cases e:aS R r<;>rw[e] at k1<;>first|exact k1.elim|skip
  obtain⟨o1,o2⟩:=k1
  obtain⟨q1,q2,b,v,t,q3,q4,q5,q6⟩:=h1.kbx r _ e
  obtain⟨p1,p2⟩:=a3o hF o2 q1 q6
  exact⟨p1,o1,b,v,t,(hblk r (by rw[e'];rfl)).trans q3,q4,q5,p2⟩
 all_goals rcases hk s with k1|⟨keq,FT⟩
 ·exact(a3o hF k1 (h2.wf s) (h2.holds s)).1
 rotate_left
 ·exact(a3o hF k1 (h2.wf s) (h2.holds s)).2
 rotate_left
 all_goals
  rw[keq]
  have hw:=h2.wf s
  have k2:=h2.holds s
  revert hw FT k2
  generalize aY G s=k9
  intro FT hw k2
 ·clear k2
  induction k9 with
  | when b k ih=>exact fun hb=>ih FT (hw hb)
  | mix ks =>
   intro k hk
   cases k with
   | val t x=>trivial
   | own r v =>
    have:r ∈ (K.mix ks).res:=yw.2 ⟨_,hk,ng.2 rfl⟩
    rw[FT] at this;cases this
   | _=>exact(by
    have:_ ∈ (K.mix ks).res:=yw.2 ⟨_,hk,ng.2 rfl⟩
    rw[FT] at this;cases this)
  | fn g ks =>
   intro k hk
   cases k with
   | val t x=>trivial
   | _=>exact(by
    have:_ ∈ (K.fn g ks).res:=yw.2 ⟨_,hk,ng.2 rfl⟩
    rw[FT] at this;cases this)
  | pls ks =>
   intro k hk
   cases k with
   | val t x=>trivial
   | _=>exact(by
    have:_ ∈ (K.pls ks).res:=yw.2 ⟨_,hk,ng.2 rfl⟩
    rw[FT] at this;cases this)
  | pcl ks i =>
   intro k hk
   cases k with
   | val t x=>trivial
   | _=>exact(by
    have:_ ∈ (K.pcl ks i).res:=yw.2 ⟨_,hk,ng.2 rfl⟩
    rw[FT] at this;cases this)
  | _=>first|trivial|(simp[K.res] at FT;done)
 ·induction k9 with
  | any=>trivial
  | val t y=>exact fM hF hs k2
  | nil=>exact k2
  | tup ts y=>obtain⟨vs,j1,j2⟩:=k2;exact⟨vs,j1,jQ hF hs ts vs y j2⟩
  | when b k ih=>exact⟨fun hb=>ih FT (hw hb) (k2.1 hb),k2.2⟩
  | mix ks =>
   obtain⟨vs,j1,j2⟩:=k2
   refine⟨vs,j1,?_⟩
   exact a1I ks vs (fun k hk=>by
    cases hkr:AO k with
    | nil=>rfl
    | cons r l =>
     have:r ∈ (K.mix ks).res:=yw.2 ⟨k,hk,by rw[hkr];exact jd ..⟩
     rw[FT] at this;cases this) j2
  | fn g ks =>
   obtain⟨vs,j1,j2⟩:=k2
   exact⟨vs,j1,a1I ks vs (fun k hk=>by
    cases hkr:AO k with
    | nil=>rfl
    | cons r l =>
     have:r ∈ (K.fn g ks).res:=yw.2 ⟨k,hk,by rw[hkr];exact jd ..⟩
     rw[FT] at this;cases this) j2⟩
  | pls ks =>
   obtain⟨b,vs,j1,j2,j3,j4⟩:=k2
   exact⟨b,vs,j1,hF b j2,lG hs j2 j3,a1I ks vs (fun k hk=>by
    cases hkr:AO k with
    | nil=>rfl
    | cons r l =>
     have:r ∈ (K.pls ks).res:=yw.2 ⟨k,hk,by rw[hkr];exact jd ..⟩
     rw[FT] at this;cases this) j4⟩
  | pcl ks i =>
   obtain⟨b,vs,j1,j2,j3,j4⟩:=k2
   exact⟨b,vs,j1,hF b j2,lG hs j2 j3,a1I ks vs (fun k hk=>by
    cases hkr:AO k with
    | nil=>rfl
    | cons r l =>
     have:r ∈ (K.pcl ks i).res:=yw.2 ⟨k,hk,by rw[hkr];exact jd ..⟩
     rw[FT] at this;cases this) j4⟩
  | _=>simp[K.res] at FT
def Post (B:Book) (W:World) (base:Fix) (Q:Exit->Gam->Rho->Prop) (e:Exit) (a:Act) (w:World):Prop:=∃ G R,Q e G R/\St B W base G R a w
theorem KA (hB:B.Ok) (hm:B.P.follows .mixedOrders=true) {id:Nat} {ops:Array Oper} {draw:Bool} {G:Gam} {R:Rho} {vc:List Cd} {G':Gam} {R':Rho} {Q:Exit->Gam->Rho->Prop} {a:Act} {w:World}
  (h:iZ B ops draw G R=some (vc,G',R')) (hv:dH vc) (hq:Q .normal G' R') (hs:St B W base G R a w):(Code.region id ops draw).wp B.P (Post B W base Q) a w:=by
 obtain⟨E,h0,h1,h2⟩:=hs
 unfold iZ at h
 cases draw with
 | true =>
  simp only[Dq] at h
  split at h<;>try(cases h;done)
  rename_i vc1 ss G1 R1 b7z
  split at h<;>try(cases h;done)
  rename_i hb
  simp only[ay] at hb
  simp only[ah,au] at h
  obtain⟨rfl,rfl,rfl⟩:=h
  exact a6x hB hm b7z hb.1.1 hb.1.2 hb.2 hv h1 h2 (fun E' a' w' m0 m1 m2=>⟨_,_,hq,E',m0.trans h0,m1,m2⟩)
 | false =>
  simp only[xg,if_false] at h
  exact wp_region_list (YI hB h hv h1 h2 (fun E' a' w' m0 m1 m2=>⟨_,_,hq,E',m0.trans h0,m1,m2⟩))
theorem YC {c:Code} {ι:Type} (I:ι->Act->World->Prop) (m:ι->Nat) {Q:Exit->Act->World->Prop} (h:∀ i a w,I i a w->c.wp B.P (Exit.then (fun a' w'=>∃ i',m i'<m i/\I i' a' w') Q) a w):∀ n i a w,m i<n->I i a w->Code.rounds B.P c Q n a w
 | 0,i,a,w,hn,hi=>by omega
 | n+1,i,a,w,hn,hi=>by
  rw[rounds_succ]
  refine Bq (h i a w hi) (fun e a' w' hq=>?_)
  cases e with
  | normal =>
   obtain⟨i',h1,h2⟩:=hq
   exact YC I m h n i' a' w' (by omega) h2
  | _=>exact hq
def leL (G:Gam) (R:Rho) (S:Gam) (Z:Rho) (l:List Nat):Prop :=
 (∀ p ∈ S,leK R Z (aY G p.1) p.2)/\(∀ p ∈ cut (S.map (·.1)++l) G,(aY G p.1).res.isEmpty=true\/leK R Z (aY G p.1) (iW (aY G p.1)))/\∀ p ∈ Z,leR R Z (aS R p.1) p.2
theorem RX:∀ (S G:Gam) (s:Nat),(∃ p ∈ S,p.1=s/\aY (S++G) s=aY S s)\/((∀ p ∈ S,p.1≠s)/\aY (S++G) s=aY G s)
 | [],G,s=>.inr ⟨fun p hp=>(by cases hp),rfl⟩
 | (q,k)::S,G,s=>by
  simp only[List.cons_append,aY]
  by_cases e:s=q
  ·left
   exact⟨(q,k),jd ..,e.symm,by rw[iw e,iw e]⟩
  ·rw[eu e,eu e]
   rcases RX S G s with⟨p,h1,h2,h3⟩|⟨h1,h2⟩
   ·exact .inl ⟨p,iy _ h1,h2,h3⟩
   ·refine .inr ⟨fun p hp=>?_,h2⟩
    rcases jw.1 hp with rfl|hp
    ·exact fun e'=>e e'.symm
    ·exact h1 p hp
theorem xU:∀ {S:Gam} {s:Nat},(∃ p ∈ S,p.1=s)->∃ p ∈ S,p.1=s/\aY S s=p.2
 | (q,k)::S,s,⟨p,hp,he⟩=>by
  simp only[aY]
  by_cases e:s=q
  ·exact⟨(q,k),jd ..,e.symm,by rw[iw e]⟩
  ·rw[eu e]
   rcases jw.1 hp with rfl|hp
   ·exact absurd he.symm e
   ·obtain⟨p',h1,h2,h3⟩:=xU ⟨p,hp,he⟩
    exact⟨p',iy _ h1,h2,h3⟩
 | [],s,⟨p,hp,_⟩=>by cases hp
theorem RZ:∀ {S:Rho} {s:Nat},(∃ p ∈ S,p.1=s)->∃ p ∈ S,p.1=s/\aS S s=p.2
 | (q,k)::S,s,⟨p,hp,he⟩=>by
  simp only[aS]
  by_cases e:s=q
  ·exact⟨(q,k),jd ..,e.symm,by rw[iw e]⟩
  ·rw[eu e]
   rcases jw.1 hp with rfl|hp
   ·exact absurd he.symm e
   ·obtain⟨p',h1,h2,h3⟩:=RZ ⟨p,hp,he⟩
    exact⟨p',iy _ h1,h2,h3⟩
 | [],s,⟨p,hp,_⟩=>by cases hp
theorem a3p {G:Gam} {R:Rho} {S:Gam} {Z:Rho} {l:List Nat} {a:Act} {w:World} (h:St B W base G R a w) (hl:leL G R S Z l):St B W base (S++qN (cut (S.map (·.1)++l) G)) Z a w:=by
 obtain⟨h1,h2,h3⟩:=hl
 have hRr:∀ r,leR R Z (aS R r) (aS Z r):=fun r=>by
  rcases a1C Z r with e|hm
  ·rw[e];cases aS R r<;>trivial
  ·obtain⟨p',j1,rfl,j3⟩:=RZ hm
   rw[j3]
   exact h3 p' j1
 refine b6r h (fun s=>?_) hRr
 rcases RX S (qN (cut (S.map (·.1)++l) G)) s with⟨p,k1,k2,k3⟩|⟨k1,k2⟩
 ·left
  rw[k3]
  obtain⟨p',j1,rfl,j3⟩:=xU ⟨p,k1,k2⟩
  rw[j3]
  exact h1 p' j1
 ·rw[k2,uK]
  rcases zU (l:=S.map (·.1)++l) G s with e|e
  ·rcases RY (cut (S.map (·.1)++l) G) s with e2|hm
   ·left;rw[e2];cases aY G s<;>trivial
   ·obtain⟨p',j1,rfl,j3⟩:=xU hm
    by_cases hc:(aY G p'.1).res.isEmpty=true
    ·right
     have h0:(aY G p'.1).res=[]:=List.isEmpty_iff.1 hc
     rw[e]
     exact⟨a3K h0,h0⟩
    ·left
     rw[e]
     exact(h2 p' j1).resolve_left hc
  ·left;rw[e];cases aY G s<;>trivial
theorem St.congr {G G':Gam} {R:Rho} {a:Act} {w:World} (h:St B W base G R a w) (hg:∀ s,aY G' s=aY G s):St B W base G' R a w:=by
 obtain⟨E,h0,h1,h2⟩:=h
 exact⟨E,h0,h1,h2.size,h2.defers,fun s=>by rw[hg];exact h2.wf s,fun s=>by rw[hg];exact h2.holds s,h2.par⟩
end
end
end Go.Proofs.YtbkocjmmbkifjaaGreat
