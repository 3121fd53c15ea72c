/-
  Lemmas for the theorem vstations28_holds, part 16 of 34.
-/
import Derived.LoopN
import Derived.Test.YtbkocjmmbkifjaaGreatQs15
namespace Go.Proofs.YtbkocjmmbkifjaaGreat
open Go Go.RowKit
theorem Cb:type_of% @wp_mono:=@wp_mono
section
set_option linter.unusedSimpArgs false
set_option linter.unusedVariables false
set_option maxRecDepth 20000
def iR (B:Book) (ops:Array Oper) (draw:Bool) (G:Gam) (R:Rho):Option (List Cd × Gam × Rho) :=
 if draw then (match yB B ops ops.toList G R with
  | some (vc,ss,G',R')=>if rY .any ops&&a3X ops (Region.before ops) ss&&b1g ops (Region.before ops) then some (vc,G',R') else none
  | none=>none)
 else xY B ops ops.toList G R
def asg:Code->List Nat
 | .region _ ops _=>ops.toList.filterMap (·.dst)
 | .seq a b=>asg a++asg b
 | .cond _ a b=>asg a++asg b
 | .block _ c=>asg c
 | .loop c=>asg c
 | .scope c=>asg c
 | .rangeFunc _ ps a b=>ps.toList++asg a++asg b
 | _=>[]
def cut (l:List Nat) (G:Gam):Gam:=G.filter fun p=>!l.contains p.1
def Res.isNil:Res->Prop
 | .row _ _ xs 0=>xs=[]
 | .mat _ _ _ Option.none xss 0=>xss=[]
 | _=>False
def Res.isNil':Res->Prop
 | .none=>True
 | _=>False
def Res.JA:Res->Bool
 | .none=>true
 | .gone=>true
 | _=>false
def PV:Res->Res->Prop
 | .mat _ _ _ ids xss _,.mat _ _ _ pX yss _=>ids=pX/\xss.length=yss.length
 | _,_=>False
def SQ (R R':Rho):List K0->List K0->Prop
 | [],[]=>True
 | .val t x::ks,.val t' y::ks'=>fU t t' x=some y/\SQ R R' ks ks'
 | .ptr r o::ks,.ptr r' o'::ks'=>(r=r'/\o=o'/\(aS R r).nN/\(aS R' r).nN)/\SQ R R' ks ks'
 | .lQ r::ks,.lQ r'::ks'=>(r=r'/\(aS R' r).DX/\((aS R' r).lU->(aS R r).lU))/\SQ R R' ks ks'
 | _,_=>False
def leK (R R':Rho):K->K->Prop
 | _,.any=>True
 | .val t x,.val t' y=>fU t t' x=some y
 | .nil,.nil=>True
 | .nil,.own r 0=>(aS R r).isNil'/\(aS R' r).isNil
 | .nil,.val (.list t) ys=>(ys:List t.den)=[]
 | .ptr r o,.ptr r' o'=>r=r'/\o=o'/\(aS R r).nN/\(aS R' r).nN
 | .own r v,.own r' v'=>r=r'/\v'=0/\Res.isRow v (aS R r)/\Res.isRow 0 (aS R' r)
 | .cell r v i,.cell r' v' i'=>r=r'/\i=i'/\v'=0/\Res.isRow v (aS R r)/\Res.isRow 0 (aS R' r)/\(aS R r).esz=(aS R' r).esz
 | .mrow r v i,.mrow r' v' i'=>r=r'/\i=i'/\v'=0/\Res.mF v (aS R r)/\Res.mF 0 (aS R' r)/\PV (aS R r) (aS R' r)
 | .mpos r v i j,.mpos r' v' i' j'=>(r=r'/\i=i'/\j=j'/\v'=0/\Res.mF v (aS R r)/\Res.mF 0 (aS R' r))/\PV (aS R r) (aS R' r)/\(aS R r).msz=(aS R' r).msz
 | .lQ r,.lQ r'=>r=r'/\(aS R' r).DX/\((aS R' r).lU->(aS R r).lU)
 | .fn g ks,.fn g' ks'=>g=g'/\SQ R R' ks ks'
 | _,_=>False
def leP:List Part->List Part->Prop
 | [],[]=>True
 | p::ps,q::qs=>fU p.t q.t p.x=some q.x/\leP ps qs
 | _,_=>False
def leM {t t':Ty} (ids pX:Option (List Nat)) (xss:List (List t.den)) (yss:List (List t'.den)):Prop:=match ids,pX with
 | some l,none=>l.Nodup/\fU (.list (.list t)) (.list (.list t')) (l.map fun i=>xss.getD i [])=some yss
 | _,_=>ids=pX/\fU (.list (.list t)) (.list (.list t')) xss=some yss
def leR (R R':Rho):Res->Res->Prop
 | _,.none=>True
 | .box ps,.box qs=>leP ps qs
 | .row e t xs _,.row e' t' ys v=>e=e'/\v=0/\fU (.list t) (.list t') xs=some ys
 | .mat e _ t none xss _,.row e' t' ys v=>e=e'/\v=0/\fU (.list (.list t)) (.list t') xss=some ys
 | .fro t xs _,.fro t' ys v=>v=0/\fU (.list t) (.list t') xs=some ys
 | .none,.row _ t ys v=>(ys:List t.den)=[]/\v=0/\t.still=true
 | .mat e e2 t ids xss _,.mat e' e2' t' pX yss v=>e=e'/\e2=e2'/\v=0/\leM ids pX xss yss
 | .none,.mat _ _ t ids yss v=>ids=none/\(yss:List (List t.den))=[]/\v=0/\t.still=true
 | .kF k,.kF k'=>k'.one=true/\leK R R' k k'
 | .kF _,.gone=>True
 | .gone,.gone=>True
 | _,_=>False
def iJ:K->K
 | .own r _=>.own r 0
 | .cell r _ i=>.cell r 0 i
 | .mrow r _ i=>.mrow r 0 i
 | .mpos r _ i j=>.mpos r 0 i j
 | .when b k=>if k.res.isEmpty then .when b k else .any
 | .mix l=>if (K.mix l).res.isEmpty then .mix l else .any
 | .sng _ _=>.any
 | .pls l=>if (K.pls l).res.isEmpty then .pls l else .any
 | .pcl l i=>if (K.pcl l i).res.isEmpty then .pcl l i else .any
 | k=>k
theorem a4i {k:K} (h:k.res=[]):iJ k=k:=by
 cases k<;>first|rfl|(simp[K.res] at h;done)|skip
 ·show (if _ then _ else _)=_;rw[jm (by simpa [K.res] using h)]
 ·show (if _ then _ else _)=_;rw[jm (by rw[h];rfl)]
 ·show (if _ then _ else _)=_;rw[jm (by rw[h];rfl)]
 ·show (if _ then _ else _)=_;rw[jm (by rw[h];rfl)]
theorem VY (k:K):iJ (iJ k)=iJ k:=by
 cases k<;>first|rfl|skip
 ·rename_i b k
  show iJ (if k.res.isEmpty then .when b k else .any)=if k.res.isEmpty then .when b k else .any
  split
  ·rename_i h;show (if _ then _ else _)=_;rw[jm h]
  ·rfl
 ·rename_i l
  show iJ (if (K.mix l).res.isEmpty then .mix l else .any)=if (K.mix l).res.isEmpty then .mix l else .any
  split
  ·rename_i h;show (if _ then _ else _)=_;rw[jm h]
  ·rfl
 ·rename_i l
  show iJ (if (K.pls l).res.isEmpty then .pls l else .any)=if (K.pls l).res.isEmpty then .pls l else .any
  split
  ·rename_i h;show (if _ then _ else _)=_;rw[jm h]
  ·rfl
 ·rename_i l i
  show iJ (if (K.pcl l i).res.isEmpty then .pcl l i else .any)=if (K.pcl l i).res.isEmpty then .pcl l i else .any
  split
  ·rename_i h;show (if _ then _ else _)=_;rw[jm h]
  ·rfl
def qG (G:Gam):Gam:=G.map fun p=>(p.1,iJ p.2)
theorem tC:∀ (G:Gam) (s:Nat),aY (qG G) s=iJ (aY G s)
 | [],s=>rfl
 | (q,k)::G,s=>by
  show (if s=q then iJ k else aY (qG G) s)=iJ (if s=q then k else aY G s)
  split
  ·rfl
  ·exact tC G s
def St (B:Book) (W:World) (base:Fix) (G:Gam) (R:Rho) (a:Act) (w:World):Prop:=∃ E:Env,E.fix=base/\Mem E (aS R) W w/\Fits E (aS R) w B a (aY G)
section
variable {B:Book} {W:World} {base:Fix}
theorem zH {l:List Nat}:∀ (G:Gam) (s:Nat),aY (cut l G) s=aY G s\/aY (cut l G) s=.any
 | [],s=>.inl rfl
 | (q,k)::G,s=>by
  unfold cut
  rw[List.filter_cons]
  split
  ·simp only[aY]
   split
   ·exact .inl rfl
   ·exact zH G s
  ·rename_i hq
   simp only[aY]
   split
   ·rename_i e
    subst e
    right
    have hq:l.contains s=true:=by simpa using hq
    have:∀ (G:Gam),aY (G.filter fun p=>!l.contains p.1) s=.any:=by
     intro G
     induction G with
     | nil=>rfl
     | cons p G ih =>
      rw[List.filter_cons]
      split
      ·rename_i hp
       simp only[aY]
       split
       ·rename_i e;rw[<-e,hq] at hp;cases hp
       ·exact ih
      ·exact ih
    exact this G
   ·exact zH G s
theorem St.cut {l:List Nat} {G:Gam} {R:Rho} {a:Act} {w:World} (h:St B W base G R a w):St B W base (cut l G) R a w:=by
 obtain⟨E,h0,h1,h2⟩:=h
 refine⟨E,h0,h1,h2.size,h2.defers,fun s=>?_,fun s=>?_,h2.par⟩
 ·rcases zH (l:=l) G s with e|e
  ·rw[e];exact h2.wf s
  ·rw[e];trivial
 ·rcases zH (l:=l) G s with e|e
  ·rw[e];exact h2.holds s
  ·rw[e];trivial
theorem RS:∀ (G:Gam) (s:Nat),aY G s=.any\/∃ p ∈ G,p.1=s
 | [],s=>.inl rfl
 | (q,k)::G,s=>by
  simp only[aY]
  split
  ·rename_i e;exact .inr ⟨_,mg ..,e.symm⟩
  ·rcases RS G s with h|⟨p,h1,h2⟩
   ·exact .inl h
   ·exact .inr ⟨p,ku _ h1,h2⟩
theorem a1V:∀ (R:Rho) (s:Nat),aS R s=.none\/∃ p ∈ R,p.1=s
 | [],s=>.inl rfl
 | (q,k)::R,s=>by
  simp only[aS]
  split
  ·rename_i e;exact .inr ⟨_,mg ..,e.symm⟩
  ·rcases a1V R s with h|⟨p,h1,h2⟩
   ·exact .inl h
   ·exact .inr ⟨p,ku _ h1,h2⟩
theorem SS {F:Nat->Prop} {w:World}:∀ {ps qs:List Part} {cs:List Value},leP ps qs->chunks (gZ F w) cs ps->chunks (gZ F w) cs qs
 | [],[],_,_,h=>h
 | p::ps,q::qs,cs,⟨h1,h2⟩,⟨c1,c2,k1,k2,k3⟩=>by
  refine⟨c1,c2,k1,?_,SS h2 k3⟩
  obtain⟨pt,px⟩:=p
  obtain⟨qt,qx⟩:=q
  obtain⟨e,h3⟩:=dL h1
  simp only at e
  subst e
  have h3:px=qx:=h3
  subst h3
  exact k2
 | [],_::_,_,h,_=>h.elim
 | _::_,[],_,h,_=>h.elim
def SC (E:Env) (r:Nat):Option (List Nat)->Option (List Nat)->Nat->Value
 | some l,none,i=>match l[i]? with
  | some j=>E.inn r j
  | none=>undef
 | _,_,i=>E.inn r i
def vC (E:Env) (r:Nat):Res->Res->Nat->Value
 | .mat _ _ _ ids _ _,.mat _ _ _ pX _ _,i=>SC E r ids pX i
 | _,_,_=>undef
def gQ (E:Env) (R R':Rho):Env:=⟨fun r=>if (aS R' r).JA then none else E.blk r,fun r=>if (aS R r).isNone then .slice none 0 0 else E.sl r,E.base,fun r=>vC E r (aS R r) (aS R' r),E.oM,E.par⟩
theorem a7r {E:Env} {r:Nat} {x y:Res} {i q:Nat} (h:bI (vC E r x y i)=some q):∃ j,bI (E.inn r j)=some q:=by
 unfold vC at h
 split at h
 ·unfold SC at h
  split at h
  ·split at h
   ·exact⟨_,h⟩
   ·cases h
  ·exact⟨_,h⟩
 ·cases h
theorem SV {E:Env} {R R':Rho} {r j q:Nat} (h:(gQ E R R').has r j q):∃ j',E.has r j' q/\(j=0↔j'=0):=by
 cases j with
 | zero =>
  have h:(if (aS R' r).JA then none else E.blk r)=some q:=h
  split at h
  ·cases h
  ·exact⟨0,h,Iff.rfl⟩
 | succ i =>
  obtain⟨j,h⟩:=a7r h
  exact⟨j+1,h,by simp⟩
theorem b0M {t t':Ty} {ids pX:Option (List Nat)} {xss:List (List t.den)} {yss:List (List t'.den)} (h:leM ids pX xss yss) (hn:∀ l,ids=some l->pX≠none):ids=pX/\fU (.list (.list t)) (.list (.list t')) xss=some yss:=by
 unfold leM at h
 split at h
 ·exact absurd rfl (hn _ rfl)
 ·exact h
theorem a7s {E:Env} {r:Nat} {R R':Rho} {x y:Res} {i i' q:Nat} (hE:∀ a c,bI (E.inn r a)=some q->bI (E.inn r c)=some q->a=c) (h:leR R R' x y) (e1:bI (vC E r x y i)=some q) (e2:bI (vC E r x y i')=some q):i=i':=by
 cases x<;>first|(cases y<;>cases e1;done)|skip
 cases y<;>first|(cases e1;done)|skip
 rename_i e0 e02 t0 a7n xss v0 el el2 t ids yss v
 by_cases hn:∃ l,a7n=some l/\ids=none
 ·obtain⟨l,rfl,rfl⟩:=hn
  have hnd:l.Nodup:=h.2.2.2.1
  simp only[vC,SC] at e1 e2
  split at e1<;>first|(cases e1;done)|skip
  rename_i a ha
  split at e2<;>first|(cases e2;done)|skip
  rename_i c hc
  have hac:=hE a c e1 e2
  subst hac
  obtain⟨i1,i2⟩:=ql.1 ha
  obtain⟨i3,i4⟩:=ql.1 hc
  rcases Nat.lt_trichotomy i i' with hl|hl|hl
  ·exact absurd (i2.trans i4.symm) (List.pairwise_iff_getElem.1 hnd i i' i1 i3 hl)
  ·exact hl
  ·exact absurd (i4.trans i2.symm) (List.pairwise_iff_getElem.1 hnd i' i i3 i1 hl)
 ·have hin:∀ i,vC E r (.mat e0 e02 t0 a7n xss v0) (.mat el el2 t ids yss v) i=E.inn r i:=fun i=>by
   cases a7n with
   | none=>rfl
   | some l=>cases ids with
    | none=>exact absurd ⟨l,rfl,rfl⟩ hn
    | some l'=>rfl
  rw[hin] at e1 e2
  exact hE i i' e1 e2
theorem a3K {E:Env} {R R':Rho} {w:World} (hF:∀ b,fz w E b->fz w (gQ E R R') b) {k k':K} {v:Value} (hl:leK R R' k k') (hw:k.wf (aS R)) (hk:k.holds E (aS R) w v):k'.wf (aS R')/\k'.holds (gQ E R R') (aS R') w v:=by
 have hsl:∀ r,(aS R r).isNone=false->(gQ E R R').sl r=E.sl r:=fun r hn=>by
  show (if (aS R r).isNone then _ else _)=_;rw[hn];rfl
 have hblk:∀ r,(aS R' r).JA=false->(gQ E R R').blk r=E.blk r:=fun r hn=>by
  show (if (aS R' r).JA then none else E.blk r)=_;rw[hn];rfl
 have hrn:∀ v r,Res.isRow v (aS R r)->(aS R r).isNone=false:=fun v r h=>by
  cases e3:aS R r<;>rw[e3] at h<;>first|exact h.elim|rfl
 have b7o:∀ r,Res.isRow 0 (aS R' r)->Res.dW 0 (aS R' r):=fun r h=>by
  cases e3:aS R' r<;>rw[e3] at h<;>first|exact h.elim|exact uq _
 have b6f:∀ r,Res.mF 0 (aS R' r)->Res.dW 0 (aS R' r):=fun r h=>by
  cases e3:aS R' r<;>rw[e3] at h<;>first|exact h.elim|exact uq _
 have hcnt:∀ r,PV (aS R r) (aS R' r)->(aS R r).cnt=(aS R' r).cnt/\(gQ E R R').inn r=E.inn r:=fun r h=>by
  have:(gQ E R R').inn r=vC E r (aS R r) (aS R' r):=rfl
  rw[this]
  cases e3:aS R r<;>rw[e3] at h<;>first|exact h.elim|skip
  cases e4:aS R' r<;>rw[e4] at h<;>first|exact h.elim|skip
  obtain⟨h1,h2⟩:=h
  subst h1
  refine⟨h2,?_⟩
  funext i
  rename_i ids _ _ _ _ _ _ _
  cases ids<;>rfl
 cases k' with
 | any=>exact⟨trivial,trivial⟩
 | val t y =>
  cases k<;>first|exact hl.elim|skip
  ·obtain⟨rfl,rfl⟩:=dL hl
   exact⟨trivial,fJ hF (iP.refl _ _) hk⟩
  ·cases t<;>first|exact hl.elim|skip
   have hl:y=[]:=hl
   subst hl
   exact⟨trivial,[.slice none 0 0],hk,none,0,rfl,by simp,by omega,.inl rfl⟩
 | nil=>cases k<;>first|exact hl.elim|exact⟨trivial,hk⟩
 | ptr r o =>
  cases k<;>first|exact hl.elim|skip
  obtain⟨rfl,rfl,j1,j2⟩:=hl
  obtain⟨b,n1,n2⟩:=hk
  refine⟨j2,b,?_,n2⟩
  rw[hblk _ (by cases e3:aS R' _<;>rw[e3] at j2<;>first|exact j2.elim|rfl)];exact n1
 | own r v =>
  cases v with
  | succ n =>
   cases k<;>first|exact hl.elim|skip
   obtain⟨_,j2,_⟩:=hl
   cases j2
  | zero =>
   cases k<;>first|exact hl.elim|skip
   ·obtain⟨j1,j2⟩:=hl
    refine⟨?_,fun _=>?_⟩
    ·show Res.dW 0 (aS R' r)
     cases e3:aS R' r<;>rw[e3] at j2<;>first|exact j2.elim|exact uq _
    ·have:(gQ E R R').sl r=.slice none 0 0:=by
      show (if (aS R r).isNone then _ else _)=_
      cases e3:aS R r<;>rw[e3] at j1<;>first|exact j1.elim|rfl
     rw[this];exact hk
   ·obtain⟨rfl,_,j1,j2⟩:=hl
    exact⟨b7o _ j2,fun _=>by rw[hsl _ (hrn _ _ j1)];exact hk j1⟩
 | cell r v i =>
  cases k<;>first|exact hl.elim|skip
  obtain⟨rfl,rfl,rfl,j1,j2,j3⟩:=hl
  refine⟨b7o _ j2,fun _=>?_⟩
  rw[hsl _ (hrn _ _ j1),<-j3]
  exact hk j1
 | mrow r v i =>
  cases k<;>first|exact hl.elim|skip
  obtain⟨rfl,rfl,rfl,j1,j2,j3⟩:=hl
  obtain⟨c1,c2⟩:=hcnt _ j3
  refine⟨⟨b6f _ j2,fun _=>?_⟩,fun _=>?_⟩
  ·rw[<-c1];exact hw.2 j1
  ·rw[c2];exact hk j1
 | mpos r v i j =>
  cases k<;>first|exact hl.elim|skip
  obtain⟨⟨rfl,rfl,rfl,rfl,j1,j2⟩,j3,j4⟩:=hl
  obtain⟨c1,c2⟩:=hcnt _ j3
  refine⟨⟨b6f _ j2,fun _=>?_⟩,fun _=>?_⟩
  ·rw[<-c1];exact hw.2 j1
  ·rw[c2,<-j4];exact hk j1
 | lQ r =>
  cases k<;>first|exact hl.elim|skip
  obtain⟨rfl,j1,j2⟩:=hl
  refine⟨j1,fun hb=>?_⟩
  rw[hblk _ (by cases e3:aS R' _<;>rw[e3] at hb<;>first|exact hb.elim|rfl)]
  exact hk (j2 hb)
 | when b k=>cases k<;>exact(by cases ‹K›<;>exact hl.elim)
 | tup ts x=>cases k<;>exact hl.elim
 | mix ks=>cases k<;>exact hl.elim
 | sng r v=>cases k<;>exact hl.elim
 | pls ks=>cases k<;>exact hl.elim
 | pcl ks i=>cases k<;>exact hl.elim
 | fn g ks' =>
  cases k<;>first|exact hl.elim|skip
  rename_i ks
  obtain⟨rfl,hl⟩:=hl
  obtain⟨vs,rfl,hk⟩:=hk
  have:∀ (ks ks':List K0) (vs:List Value),SQ R R' ks ks'->kW (fz w E) E (aS R) w ks vs->(∀ k ∈ ks',IK (aS R') k)/\kW (fz w (gQ E R R')) (gQ E R R') (aS R') w ks' vs:=by
   intro ks
   induction ks with
   | nil =>
    intro ks' vs hl hk
    cases ks' with
    | nil=>exact⟨fun k h=>(by cases h),hk⟩
    | cons _ _=>exact hl.elim
   | cons k ks ih =>
    intro ks' vs hl ⟨v,vs',e1,e2,e3⟩
    cases ks' with
    | nil=>cases k<;>exact hl.elim
    | cons k' ks' =>
     have key:SQ R R' ks ks'->IK (aS R') k'->a5y (fz w (gQ E R R')) (gQ E R R') (aS R') w k' v->(∀ k ∈ k'::ks',IK (aS R') k)/\kW (fz w (gQ E R R')) (gQ E R R') (aS R') w (k'::ks') vs:=fun h1 h2 h3=>by
      obtain⟨i1,i2⟩:=ih ks' vs' h1 e3
      refine⟨fun k hk=>?_,v,vs',e1,h3,i2⟩
      rcases qh.1 hk with rfl|hk
      ·exact h2
      ·exact i1 k hk
     cases k<;>cases k'<;>first|exact hl.elim|skip
     ·obtain⟨h1,h2⟩:=hl
      obtain⟨rfl,rfl⟩:=dL h1
      exact key h2 trivial (fJ hF (iP.refl _ _) e2)
     ·obtain⟨⟨rfl,rfl,j1,j2⟩,h2⟩:=hl
      obtain⟨b,n1,n2⟩:=e2
      exact key h2 j2 ⟨b,by rw[hblk _ (by cases e3:aS R' _<;>rw[e3] at j2<;>first|exact j2.elim|rfl)];exact n1,n2⟩
     ·obtain⟨⟨rfl,j1,j2⟩,h2⟩:=hl
      exact key h2 j1 (fun hb=>by
       rw[hblk _ (by cases e3:aS R' _<;>rw[e3] at hb<;>first|exact hb.elim|rfl)]
       exact e2 (j2 hb))
  obtain⟨q1,q2⟩:=this ks ks' vs hl hk
  exact⟨q1,vs,rfl,q2⟩
theorem b6p {G G':Gam} {R R':Rho} {a:Act} {w:World} (h:St B W base G R a w) (hk:∀ s,leK R R' (aY G s) (aY G' s)\/(aY G' s=aY G s/\(aY G s).res=[])) (hr:∀ r,leR R R' (aS R r) (aS R' r)):St B W base G' R' a w:=by
 obtain⟨E,h0,h1,h2⟩:=h
 have hF:∀ q,fz w E q->fz w (gQ E R R') q:=fun q hq=>qW hq.1.1 hq.1.2 (fun r j e=>by
  obtain⟨j',e',_⟩:=SV e
  exact rJ hq r j' e')
 have hs:=iP.refl (fz w E) w
 have a2a:∀ (ks:List K0) (vs:List Value),(∀ k ∈ ks,zU k=[])->kW (fz w E) E (aS R) w ks vs->kW (fz w (gQ E R R')) (gQ E R R') (aS R') w ks vs:=by
  intro ks
  induction ks with
  | nil=>intro vs _ h;exact h
  | cons k ks ih =>
   intro vs hk ⟨v,vs',e1,e2,e3⟩
   refine⟨v,vs',e1,?_,ih vs' (fun k hk'=>hk k (ku _ hk')) e3⟩
   have h0:=hk k (mg ..)
   cases k with
   | val t x=>exact fJ hF hs e2
   | _=>simp[zU] at h0
 have hsl:∀ r,(aS R r).isNone=false->(gQ E R R').sl r=E.sl r:=fun r hn=>by
  show (if (aS R r).isNone then _ else _)=_;rw[hn];rfl
 have hblk:∀ r,(aS R' r).JA=false->(gQ E R R').blk r=E.blk r:=fun r hn=>by
  show (if (aS R' r).JA then none else E.blk r)=_;rw[hn];rfl
 have c2V:∀ r,(aS R' r).JA=true->(gQ E R R').blk r=none:=fun r hn=>by
  show (if (aS R' r).JA then none else E.blk r)=_;rw[hn];rfl
 have zJ:∀ r i,(gQ E R R').inn r i=vC E r (aS R r) (aS R' r) i:=fun _ _=>rfl
 have hnil:∀ r,lT E w r Res.none->(gQ E R R').sl r=.slice none 0 0->(aS R' r).JA=false->(gQ E R R').blk r=bI ((gQ E R R').sl r):=fun r k2 hsl hn=>by
  rw[hblk r hn,hsl];exact k2
 have hres:∀ r,lT (gQ E R R') w r (aS R' r):=fun r=>by
  have k2:=h1.res r
  have k1:=hr r
  cases e':aS R' r with
  | none=>exact c2V r (by rw[e'];rfl)
  | gone=>exact c2V r (by rw[e'];rfl)
  | kF k=>trivial
  | box qs =>
   rw[e'] at k1
   cases e:aS R r<;>rw[e] at k1<;>first|exact k1.elim|skip
   rw[e] at k2
   obtain⟨b,cs,el,j1,j3,j4⟩:=k2
   exact⟨b,cs,el,(hblk r (by rw[e'];rfl)).trans j1,j3,SS k1 (aW (fun c p=>gZ.mono hF hs) _ _ j4)⟩
  | row el t ys v =>
   rw[e'] at k1
   cases e:aS R r<;>rw[e] at k1<;>first|exact k1.elim|skip
   ·rw[e] at k2
    obtain⟨j1,j2,j3⟩:=k1
    have hsl:(gQ E R R').sl r=.slice none 0 0:=by show (if (aS R r).isNone then _ else _)=_;rw[e];rfl
    refine⟨hnil r k2 hsl (by rw[e'];rfl),j3,[],?_,?_,?_⟩
    ·rw[hsl,j1];exact Bd w _ _ _
    ·rw[j1];exact rfl
    ·exact⟨by rw[hsl];exact fun g hg=>(by cases hg),by rw[j2];exact a2B _⟩
   ·rename_i el0 t0 xs v0
    rw[e] at k2
    obtain⟨j1,j2,j3⟩:=k1
    subst j1
    obtain⟨ee,j3⟩:=dL j3
    simp only[Ty.list.injEq] at ee
    subst ee
    have j3:xs=ys:=j3
    subst j3
    obtain⟨n1,n2,cs,n3,n4,n5⟩:=k2
    have hsl:=hsl r (by rw[e];rfl)
    exact⟨by rw[hblk r (by rw[e'];rfl),hsl];exact n1,n2,cs,by rw[hsl];exact n3,aW (fun c y=>bW hF hs t0 c y) _ _ n4,by rw[hsl];exact n5.1,by rw[j2];exact a2B _⟩
   ·rename_i el0 el2 t0 ids xss v0
    cases ids<;>first|exact k1.elim|skip
    rw[e] at k2
    obtain⟨j1,j2,j3⟩:=k1
    subst j1
    obtain⟨ee,j3⟩:=dL j3
    simp only[Ty.list.injEq] at ee
    subst ee
    have j3:xss=ys:=j3
    subst j3
    obtain⟨n1,n2,⟨cs,n3,n4,n5⟩,n6,n7,n8⟩:=k2
    have hsl:=hsl r (by rw[e];rfl)
    have hlen:(bJ (α:=List t0.den) none xss).length=List.length (α:=(Ty.list t0).den) xss:=by simp only[bJ,bf];rfl
    rw[hlen] at n3
    have hfz:∀ j g,E.has r (j+1) g->fz w (gQ E R R') g:=fun j g hh=>by
     refine qW (h1.lt hh) (h1.base _ (h1.mine r (j+1) g hh)) (fun r' j' e9=>?_)
     obtain⟨j2,e8,e7⟩:=SV e9
     obtain⟨rfl,rfl⟩:=h1.inj _ _ _ _ _ e8 hh
     cases j' with
     | zero=>have:=e7.1 rfl;omega
     | succ i =>
      have e9:bI (vC E r' (aS R r') (aS R' r') i)=some g:=e9
      rw[e,e'] at e9
      cases e9
    have hrow:∀ i xs,xss[i]?=some xs->rep (fz w (gQ E R R')) w (.list t0) [E.inn r i] xs:=fun i xs hi=>by
     obtain⟨ds,q1,q2,q3⟩:=n8 i xs hi
     obtain⟨cs9,e9,r9⟩:=jX (E:=E) (F:=fz w (gQ E R R')) q1 (aW (fun c y=>bW hF hs t0 c y) _ _ q2) (fun g hg=>hfz i g hg)
     have r8:=r9
     obtain⟨p9,c9,e8,_⟩:=r9
     have e7:cs9=[E.inn r i]:=by
      have:E.inn r i=cs9.headD undef:=e9
      rw[this,e8];rfl
     rw[<-e7];exact r8
    refine⟨by rw[hblk r (by rw[e'];rfl),hsl];exact n1,rfl,cs,by rw[hsl];exact n3,?_,by rw[hsl];exact n5,by rw[j2];exact a2B _⟩
    rw[n4]
    show chunks _ ((List.range xss.length).map (E.inn r)) xss
    exact uU _ _ hrow
  | fro t ys v =>
   rw[e'] at k1
   cases e:aS R r<;>rw[e] at k1<;>first|exact k1.elim|skip
   rename_i t0 xs v0
   rw[e] at k2
   obtain⟨j2,j3⟩:=k1
   obtain⟨ee,j3⟩:=dL j3
   simp only[Ty.list.injEq] at ee
   subst ee
   have j3:xs=ys:=j3
   subst j3
   exact⟨(hblk r (by rw[e'];rfl)).trans k2.1,by rw[hsl r (by rw[e];rfl)];exact fJ hF hs k2.2⟩
  | mat el el2 t ids yss v =>
   rw[e'] at k1
   cases e:aS R r<;>rw[e] at k1<;>first|exact k1.elim|skip
   ·rw[e] at k2
    obtain⟨rfl,j1,j2,j3⟩:=k1
    have hsl:(gQ E R R').sl r=.slice none 0 0:=by show (if (aS R r).isNone then _ else _)=_;rw[e];rfl
    have hin:∀ i,bI ((gQ E R R').inn r i)=none:=fun i=>by rw[zJ,e,e'];rfl
    subst j1
    refine⟨hnil r k2 hsl (by rw[e'];rfl),j3,⟨[],?_,rfl,?_⟩,fun i hi=>?_,fun i _=>hin i,fun i xs hi=>?_⟩
    ·rw[hsl];exact Bd w _ _ _
    ·rw[hsl];intro g hg;cases hg
    ·simp[bJ] at hi
    ·simp at hi
   ·rename_i el0 c5r t0 a7n xss v0
    rw[e] at k2
    obtain⟨j1,j2,j3,j4⟩:=k1
    subst j1 j2
    obtain⟨n1,n2,⟨cs,n3,n4,n5⟩,n6,n7,n8⟩:=k2
    have hsl:=hsl r (by rw[e];rfl)
    have hbl:=hblk r (by rw[e'];rfl)
    by_cases hn:∃ l,a7n=some l/\ids=none
    ·obtain⟨l,rfl,rfl⟩:=hn
     obtain⟨j4,j5⟩:=j4
     obtain⟨ee,j5⟩:=dL j5
     simp only[Ty.list.injEq] at ee
     subst ee
     have j5:(l.map fun i=>xss.getD i [])=yss:=j5
     have hlen:yss.length=l.length:=by rw[<-j5];simp
     have hin:∀ i j,l[i]?=some j->(gQ E R R').inn r i=E.inn r j:=fun i j hi=>by rw[zJ,e,e'];simp only[vC,SC,hi]
     have hin0:∀ i,l[i]?=none->bI ((gQ E R R').inn r i)=none:=fun i hi=>by rw[zJ,e,e'];simp only[vC,SC,hi];rfl
     refine⟨by rw[hbl,hsl];exact n1,n2,⟨cs,?_,?_,by rw[hsl];exact n5⟩,fun i hi=>by simpa [bJ] using hi,fun i hi=>hin0 i (xg (by omega)),fun i xs hi=>?_⟩
     ·rw[hsl]
      have:(bJ (none:Option (List Nat)) yss).length=(bJ (some l) xss).length:=by simp[bJ,hlen]
      rw[this];exact n3
     ·rw[n4]
      simp only[bJ]
      apply List.ext_getElem?
      intro i
      rw[xk,xk,hlen]
      by_cases hi:i<l.length
      ·rw[Bf hi,jc hi]
       simp only[Option.map_some]
       rw[hin i l[i] (jc hi)]
      ·rw[xg (by simpa using hi),xg (l:=List.range l.length) (by simpa using hi)]
       rfl
     ·rw[<-j5,xk] at hi
      cases hj:l[i]? with
      | none=>rw[hj] at hi;cases hi
      | some j =>
       rw[hj] at hi
       simp only[Option.map_some,ak] at hi
       have hjl:j<xss.length:=n6 j (by simp only[bJ];exact Cc hj)
       obtain⟨ds,q1,q2,q3⟩:=n8 j xs (by rw[<-hi,iy,jc hjl];rfl)
       exact⟨ds,by rw[hin i j hj];exact q1,aW (fun c y=>bW hF hs t0 c y) _ _ q2,by rw[hin i j hj];exact q3⟩
    ·obtain⟨j4,j5⟩:=b0M j4 (fun l e1 e2=>hn ⟨l,e1,e2⟩)
     subst j4
     obtain⟨ee,j5⟩:=dL j5
     simp only[Ty.list.injEq] at ee
     subst ee
     have j5:xss=yss:=j5
     subst j5
     have hin:(gQ E R R').inn r=E.inn r:=by
      funext i
      rw[zJ,e,e']
      cases a7n<;>rfl
     exact⟨by rw[hbl,hsl];exact n1,n2,⟨cs,by rw[hsl];exact n3,by rw[hin];exact n4,by rw[hsl];exact n5⟩,n6,by rw[hin];exact n7,fun i xs hi=>by
      obtain⟨ds,q1,q2,q3⟩:=n8 i xs hi
      exact⟨ds,by rw[hin];exact q1,aW (fun c y=>bW hF hs t0 c y) _ _ q2,by rw[hin];exact q3⟩⟩
 refine⟨gQ E R R',h0,⟨h1.below,hres,fun r j r' j' q e1 e2=>?_,fun r j b e=>?_,h1.base,fun r i hi=>?_,fun r k e'=>?_,h1.dig⟩,h2.size,h2.defers,fun s=>?_,fun s=>?_,h2.par⟩
 ·obtain⟨i,f1,g1⟩:=SV e1
  obtain⟨i',f2,g2⟩:=SV e2
  obtain⟨rfl,rfl⟩:=h1.inj _ _ _ _ _ f1 f2
  refine⟨rfl,?_⟩
  cases j with
  | zero=>cases j' with
   | zero=>rfl
   | succ j'=>exact absurd (g2.2 (g1.1 rfl)) (by simp)
  | succ j=>cases j' with
   | zero=>exact absurd (g1.2 (g2.1 rfl)) (by simp)
   | succ j' =>
    have e1:bI (vC E r (aS R r) (aS R' r) j)=some q:=e1
    have e2:bI (vC E r (aS R r) (aS R' r) j')=some q:=e2
    rw[a7s (fun a c ha hc=>by have:=(h1.inj r (a+1) r (c+1) q ha hc).2;omega) (hr r) e1 e2]
 ·obtain⟨j',e',_⟩:=SV e
  exact h1.mine r j' b e'
 ·have k1:=hres r
  cases e':aS R' r with
  | mat el el2 t ids yss v =>
   rw[e'] at k1 hi
   exact k1.2.2.2.2.1 i hi
  | _=>rw[zJ,e'];cases aS R r<;>rfl
 ·have k1:=hr r
  rw[e'] at k1
  cases e:aS R r<;>rw[e] at k1<;>first|exact k1.elim|skip
  obtain⟨o1,o2⟩:=k1
  obtain⟨q1,q2,b,v,t,q3,q4,q5,q6⟩:=h1.kbx r _ e
  obtain⟨p1,p2⟩:=a3K hF o2 q1 q6
  exact⟨p1,o1,b,v,t,(hblk r (by rw[e'];rfl)).trans q3,q4,q5,p2⟩
 all_goals rcases hk s with k1|⟨keq,EZ⟩
 ·exact(a3K hF k1 (h2.wf s) (h2.holds s)).1
 rotate_left
 ·exact(a3K hF k1 (h2.wf s) (h2.holds s)).2
 rotate_left
 all_goals
  rw[keq]
  have hw:=h2.wf s
  have k2:=h2.holds s
  revert hw EZ k2
  generalize aY G s=k9
  intro EZ hw k2
 ·clear k2
  induction k9 with
  | when b k ih=>exact fun hb=>ih EZ (hw hb)
  | mix ks =>
   intro k hk
   cases k with
   | val t x=>trivial
   | own r v =>
    have:r ∈ (K.mix ks).res:=zq.2 ⟨_,hk,tq.2 rfl⟩
    rw[EZ] at this;cases this
   | _=>exact(by
    have:_ ∈ (K.mix ks).res:=zq.2 ⟨_,hk,tq.2 rfl⟩
    rw[EZ] at this;cases this)
  | fn g ks =>
   intro k hk
   cases k with
   | val t x=>trivial
   | _=>exact(by
    have:_ ∈ (K.fn g ks).res:=zq.2 ⟨_,hk,tq.2 rfl⟩
    rw[EZ] at this;cases this)
  | pls ks =>
   intro k hk
   cases k with
   | val t x=>trivial
   | _=>exact(by
    have:_ ∈ (K.pls ks).res:=zq.2 ⟨_,hk,tq.2 rfl⟩
    rw[EZ] at this;cases this)
  | pcl ks i =>
   intro k hk
   cases k with
   | val t x=>trivial
   | _=>exact(by
    have:_ ∈ (K.pcl ks i).res:=zq.2 ⟨_,hk,tq.2 rfl⟩
    rw[EZ] at this;cases this)
  | _=>first|trivial|(simp[K.res] at EZ;done)
 ·induction k9 with
  | any=>trivial
  | val t y=>exact fJ hF hs k2
  | nil=>exact k2
  | tup ts y=>obtain⟨vs,j1,j2⟩:=k2;exact⟨vs,j1,jM hF hs ts vs y j2⟩
  | when b k ih=>exact⟨fun hb=>ih EZ (hw hb) (k2.1 hb),k2.2⟩
  | mix ks =>
   obtain⟨vs,j1,j2⟩:=k2
   refine⟨vs,j1,?_⟩
   exact a2a ks vs (fun k hk=>by
    cases hkr:zU k with
    | nil=>rfl
    | cons r l =>
     have:r ∈ (K.mix ks).res:=zq.2 ⟨k,hk,by rw[hkr];exact mg ..⟩
     rw[EZ] at this;cases this) j2
  | fn g ks =>
   obtain⟨vs,j1,j2⟩:=k2
   exact⟨vs,j1,a2a ks vs (fun k hk=>by
    cases hkr:zU k with
    | nil=>rfl
    | cons r l =>
     have:r ∈ (K.fn g ks).res:=zq.2 ⟨k,hk,by rw[hkr];exact mg ..⟩
     rw[EZ] at this;cases this) j2⟩
  | pls ks =>
   obtain⟨b,vs,j1,j2,j3,j4⟩:=k2
   exact⟨b,vs,j1,hF b j2,kZ hs j2 j3,a2a ks vs (fun k hk=>by
    cases hkr:zU k with
    | nil=>rfl
    | cons r l =>
     have:r ∈ (K.pls ks).res:=zq.2 ⟨k,hk,by rw[hkr];exact mg ..⟩
     rw[EZ] at this;cases this) j4⟩
  | pcl ks i =>
   obtain⟨b,vs,j1,j2,j3,j4⟩:=k2
   exact⟨b,vs,j1,hF b j2,kZ hs j2 j3,a2a ks vs (fun k hk=>by
    cases hkr:zU k with
    | nil=>rfl
    | cons r l =>
     have:r ∈ (K.pcl ks i).res:=zq.2 ⟨k,hk,by rw[hkr];exact mg ..⟩
     rw[EZ] at this;cases this) j4⟩
  | _=>simp[K.res] at EZ
def Post (B:Book) (W:World) (base:Fix) (Q:Exit->Gam->Rho->Prop) (e:Exit) (a:Act) (w:World):Prop:=∃ G R,Q e G R/\St B W base G R a w
theorem JK (hB:B.Ok) (hm:B.P.follows .mixedOrders=true) {id:Nat} {ops:Array Oper} {draw:Bool} {G:Gam} {R:Rho} {vc:List Cd} {G':Gam} {R':Rho} {Q:Exit->Gam->Rho->Prop} {a:Act} {w:World}
  (h:iR B ops draw G R=some (vc,G',R')) (hv:dJ vc) (hq:Q .normal G' R') (hs:St B W base G R a w):(Code.region id ops draw).wp B.P (Post B W base Q) a w:=by
 obtain⟨E,h0,h1,h2⟩:=hs
 unfold iR at h
 cases draw with
 | true =>
  simp only[Dl] at h
  split at h<;>try(cases h;done)
  rename_i vc1 ss G1 R1 b7m
  split at h<;>try(cases h;done)
  rename_i hb
  simp only[au] at hb
  simp only[ak,dh] at h
  obtain⟨rfl,rfl,rfl⟩:=h
  exact a6O hB hm b7m hb.1.1 hb.1.2 hb.2 hv h1 h2 (fun E' a' w' m0 m1 m2=>⟨_,_,hq,E',m0.trans h0,m1,m2⟩)
 | false =>
  simp only[Ad,if_false] at h
  exact wp_region_list (YU hB h hv h1 h2 (fun E' a' w' m0 m1 m2=>⟨_,_,hq,E',m0.trans h0,m1,m2⟩))
theorem YQ {c:Code} {ι:Type} (I:ι->Act->World->Prop) (m:ι->Nat) {Q:Exit->Act->World->Prop} (h:∀ i a w,I i a w->c.wp B.P (Exit.then (fun a' w'=>∃ i',m i'<m i/\I i' a' w') Q) a w):∀ n i a w,m i<n->I i a w->Code.rounds B.P c Q n a w
 | 0,i,a,w,hn,hi=>by omega
 | n+1,i,a,w,hn,hi=>by
  rw[rounds_succ]
  refine Cb (h i a w hi) (fun e a' w' hq=>?_)
  cases e with
  | normal =>
   obtain⟨i',h1,h2⟩:=hq
   exact YQ I m h n i' a' w' (by omega) h2
  | _=>exact hq
def leL (G:Gam) (R:Rho) (S:Gam) (Z:Rho) (l:List Nat):Prop :=
 (∀ p ∈ S,leK R Z (aY G p.1) p.2)/\(∀ p ∈ cut (S.map (·.1)++l) G,(aY G p.1).res.isEmpty=true\/leK R Z (aY G p.1) (iJ (aY G p.1)))/\∀ p ∈ Z,leR R Z (aS R p.1) p.2
theorem RP:∀ (S G:Gam) (s:Nat),(∃ p ∈ S,p.1=s/\aY (S++G) s=aY S s)\/((∀ p ∈ S,p.1≠s)/\aY (S++G) s=aY G s)
 | [],G,s=>.inr ⟨fun p hp=>(by cases hp),rfl⟩
 | (q,k)::S,G,s=>by
  simp only[List.cons_append,aY]
  by_cases e:s=q
  ·left
   exact⟨(q,k),mg ..,e.symm,by rw[jm e,jm e]⟩
  ·rw[ji e,ji e]
   rcases RP S G s with⟨p,h1,h2,h3⟩|⟨h1,h2⟩
   ·exact .inl ⟨p,ku _ h1,h2,h3⟩
   ·refine .inr ⟨fun p hp=>?_,h2⟩
    rcases qh.1 hp with rfl|hp
    ·exact fun e'=>e e'.symm
    ·exact h1 p hp
theorem xB:∀ {S:Gam} {s:Nat},(∃ p ∈ S,p.1=s)->∃ p ∈ S,p.1=s/\aY S s=p.2
 | (q,k)::S,s,⟨p,hp,he⟩=>by
  simp only[aY]
  by_cases e:s=q
  ·exact⟨(q,k),mg ..,e.symm,by rw[jm e]⟩
  ·rw[ji e]
   rcases qh.1 hp with rfl|hp
   ·exact absurd he.symm e
   ·obtain⟨p',h1,h2,h3⟩:=xB ⟨p,hp,he⟩
    exact⟨p',ku _ h1,h2,h3⟩
 | [],s,⟨p,hp,_⟩=>by cases hp
theorem RU:∀ {S:Rho} {s:Nat},(∃ p ∈ S,p.1=s)->∃ p ∈ S,p.1=s/\aS S s=p.2
 | (q,k)::S,s,⟨p,hp,he⟩=>by
  simp only[aS]
  by_cases e:s=q
  ·exact⟨(q,k),mg ..,e.symm,by rw[jm e]⟩
  ·rw[ji e]
   rcases qh.1 hp with rfl|hp
   ·exact absurd he.symm e
   ·obtain⟨p',h1,h2,h3⟩:=RU ⟨p,hp,he⟩
    exact⟨p',ku _ h1,h2,h3⟩
 | [],s,⟨p,hp,_⟩=>by cases hp
theorem a3L {G:Gam} {R:Rho} {S:Gam} {Z:Rho} {l:List Nat} {a:Act} {w:World} (h:St B W base G R a w) (hl:leL G R S Z l):St B W base (S++qG (cut (S.map (·.1)++l) G)) Z a w:=by
 obtain⟨h1,h2,h3⟩:=hl
 have hRr:∀ r,leR R Z (aS R r) (aS Z r):=fun r=>by
  rcases a1V Z r with e|hm
  ·rw[e];cases aS R r<;>trivial
  ·obtain⟨p',j1,rfl,j3⟩:=RU hm
   rw[j3]
   exact h3 p' j1
 refine b6p h (fun s=>?_) hRr
 rcases RP S (qG (cut (S.map (·.1)++l) G)) s with⟨p,k1,k2,k3⟩|⟨k1,k2⟩
 ·left
  rw[k3]
  obtain⟨p',j1,rfl,j3⟩:=xB ⟨p,k1,k2⟩
  rw[j3]
  exact h1 p' j1
 ·rw[k2,tC]
  rcases zH (l:=S.map (·.1)++l) G s with e|e
  ·rcases RS (cut (S.map (·.1)++l) G) s with e2|hm
   ·left;rw[e2];cases aY G s<;>trivial
   ·obtain⟨p',j1,rfl,j3⟩:=xB hm
    by_cases hc:(aY G p'.1).res.isEmpty=true
    ·right
     have h0:(aY G p'.1).res=[]:=List.isEmpty_iff.1 hc
     rw[e]
     exact⟨a4i h0,h0⟩
    ·left
     rw[e]
     exact(h2 p' j1).resolve_left hc
  ·left;rw[e];cases aY G s<;>trivial
theorem St.congr {G G':Gam} {R:Rho} {a:Act} {w:World} (h:St B W base G R a w) (hg:∀ s,aY G' s=aY G s):St B W base G' R a w:=by
 obtain⟨E,h0,h1,h2⟩:=h
 exact⟨E,h0,h1,h2.size,h2.defers,fun s=>by rw[hg];exact h2.wf s,fun s=>by rw[hg];exact h2.holds s,h2.par⟩
end
end
end Go.Proofs.YtbkocjmmbkifjaaGreat
