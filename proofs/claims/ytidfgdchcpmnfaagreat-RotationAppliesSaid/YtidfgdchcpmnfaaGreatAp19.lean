/-
  Lemmas for the theorem vapplies_holds, part 19 of 33.
-/
import Derived.LoopN
import Derived.Test.YtidfgdchcpmnfaaGreatAp18
namespace Go.Proofs.YtidfgdchcpmnfaaGreat
open Go Go.RowKit
set_option linter.unusedSimpArgs false
set_option linter.unusedVariables false
set_option maxRecDepth 20000
def rO (B:Book) (ops:Array Oper) (draw:Bool) (G:Gam) (R:Rho):Option (List Prop × Gam × Rho) :=
 if draw then (match wV B ops ops.toList G R with
  | some (vc,ss,G',R')=>if lH .any ops&&a2v ops (Region.before ops) ss&&a8s ops (Region.before ops) then some (vc,G',R') else none
  | none=>none)
 else zN B ops ops.toList G R
def asg:Code->List Nat
 | .region _ ops _=>ops.toList.filterMap (·.dst)
 | .seq a b=>asg a++asg b
 | .cond _ a b=>asg a++asg b
 | .block _ c=>asg c
 | .loop c=>asg c
 | .scope c=>asg c
 | .rangeFunc _ ps a b=>ps.toList++asg a++asg b
 | _=>[]
def cut (l:List Nat) (G:Gam):Gam:=G.filter fun p=>!l.contains p.1
def Res.isNil:Res->Prop
 | .row _ _ xs 0=>xs=[]
 | .mat _ _ _ Option.none xss 0=>xss=[]
 | _=>False
def Res.isNil':Res->Prop
 | .none=>True
 | _=>False
def Res.FC:Res->Bool
 | .none=>true
 | .gone=>true
 | _=>false
def MH:Res->Res->Prop
 | .mat _ _ _ ids xss _,.mat _ _ _ oV yss _=>ids=oV/\xss.length=yss.length
 | _,_=>False
def OZ (R R':Rho):List K0->List K0->Prop
 | [],[]=>True
 | .val t x::ks,.val t' y::ks'=>jO t t' x=some y/\OZ R R' ks ks'
 | .ptr r o::ks,.ptr r' o'::ks'=>(r=r'/\o=o'/\(aV R r).fV/\(aV R' r).fV)/\OZ R R' ks ks'
 | .lK r::ks,.lK r'::ks'=>(r=r'/\(aV R' r).BM/\((aV R' r).lV->(aV R r).lV))/\OZ R R' ks ks'
 | _,_=>False
def leK (R R':Rho):K->K->Prop
 | _,.any=>True
 | .val t x,.val t' y=>jO t t' x=some y
 | .nil,.nil=>True
 | .nil,.own r 0=>(aV R r).isNil'/\(aV R' r).isNil
 | .nil,.val (.list t) ys=>(ys:List t.den)=[]
 | .ptr r o,.ptr r' o'=>r=r'/\o=o'/\(aV R r).fV/\(aV R' r).fV
 | .own r v,.own r' v'=>r=r'/\v'=0/\Res.isRow v (aV R r)/\Res.isRow 0 (aV R' r)
 | .cell r v i,.cell r' v' i'=>r=r'/\i=i'/\v'=0/\Res.isRow v (aV R r)/\Res.isRow 0 (aV R' r)/\(aV R r).esz=(aV R' r).esz
 | .mrow r v i,.mrow r' v' i'=>r=r'/\i=i'/\v'=0/\Res.mD v (aV R r)/\Res.mD 0 (aV R' r)/\MH (aV R r) (aV R' r)
 | .mpos r v i j,.mpos r' v' i' j'=>(r=r'/\i=i'/\j=j'/\v'=0/\Res.mD v (aV R r)/\Res.mD 0 (aV R' r))/\MH (aV R r) (aV R' r)/\(aV R r).msz=(aV R' r).msz
 | .lK r,.lK r'=>r=r'/\(aV R' r).BM/\((aV R' r).lV->(aV R r).lV)
 | .fn g ks,.fn g' ks'=>g=g'/\OZ R R' ks ks'
 | _,_=>False
def leP:List Part->List Part->Prop
 | [],[]=>True
 | p::ps,q::qs=>jO p.t q.t p.x=some q.x/\leP ps qs
 | _,_=>False
def leM {t t':Ty} (ids oV:Option (List Nat)) (xss:List (List t.den)) (yss:List (List t'.den)):Prop:=match ids,oV with
 | some l,none=>l.Nodup/\jO (.list (.list t)) (.list (.list t')) (l.map fun i=>xss.getD i [])=some yss
 | _,_=>ids=oV/\jO (.list (.list t)) (.list (.list t')) xss=some yss
def leR (R R':Rho):Res->Res->Prop
 | _,.none=>True
 | .box ps,.box qs=>leP ps qs
 | .row e t xs _,.row e' t' ys v=>e=e'/\v=0/\jO (.list t) (.list t') xs=some ys
 | .fro t xs _,.fro t' ys v=>v=0/\jO (.list t) (.list t') xs=some ys
 | .none,.row _ t ys v=>(ys:List t.den)=[]/\v=0/\t.still=true
 | .mat e e2 t ids xss _,.mat e' e2' t' oV yss v=>e=e'/\e2=e2'/\v=0/\leM ids oV xss yss
 | .none,.mat _ _ t ids yss v=>ids=none/\(yss:List (List t.den))=[]/\v=0/\t.still=true
 | .kT k,.kT k'=>k'.one=true/\leK R R' k k'
 | .kT _,.gone=>True
 | .gone,.gone=>True
 | _,_=>False
def jH:K->K
 | .own r _=>.own r 0
 | .cell r _ i=>.cell r 0 i
 | .mrow r _ i=>.mrow r 0 i
 | .mpos r _ i j=>.mpos r 0 i j
 | .when b k=>if k.res.isEmpty then .when b k else .any
 | .mix l=>if (K.mix l).res.isEmpty then .mix l else .any
 | .sng _ _=>.any
 | k=>k
theorem a2M {k:K} (h:k.res=[]):jH k=k:=by
 cases k<;>first|rfl|(simp[K.res] at h;done)|skip
 ·show (if _ then _ else _)=_;rw[if_pos (by simpa [K.res] using h)]
 ·show (if _ then _ else _)=_;rw[if_pos (by rw[h];rfl)]
theorem SV (k:K):jH (jH k)=jH k:=by
 cases k<;>first|rfl|skip
 ·rename_i b k
  show jH (if k.res.isEmpty then .when b k else .any)=if k.res.isEmpty then .when b k else .any
  split
  ·rename_i h;show (if _ then _ else _)=_;rw[if_pos h]
  ·rfl
 ·rename_i l
  show jH (if (K.mix l).res.isEmpty then .mix l else .any)=if (K.mix l).res.isEmpty then .mix l else .any
  split
  ·rename_i h;show (if _ then _ else _)=_;rw[if_pos h]
  ·rfl
def pG (G:Gam):Gam:=G.map fun p=>(p.1,jH p.2)
theorem sD:∀ (G:Gam) (s:Nat),dJ (pG G) s=jH (dJ G s)
 | [],s=>rfl
 | (q,k)::G,s=>by
  show (if s=q then jH k else dJ (pG G) s)=jH (if s=q then k else dJ G s)
  split
  ·rfl
  ·exact sD G s
def St (B:Book) (W:World) (base:Fix) (G:Gam) (R:Rho) (a:Act) (w:World):Prop:=∃ E:Env,E.fix=base/\Mem E (aV R) W w/\Fits E (aV R) w B a (dJ G)
section
variable {B:Book} {W:World} {base:Fix}
theorem yP {l:List Nat}:∀ (G:Gam) (s:Nat),dJ (cut l G) s=dJ G s\/dJ (cut l G) s=.any
 | [],s=>.inl rfl
 | (q,k)::G,s=>by
  unfold cut
  rw[List.filter_cons]
  split
  ·simp only[dJ]
   split
   ·exact .inl rfl
   ·exact yP G s
  ·rename_i hq
   simp only[dJ]
   split
   ·rename_i e
    subst e
    right
    have hq:l.contains s=true:=by simpa using hq
    have:∀ (G:Gam),dJ (G.filter fun p=>!l.contains p.1) s=.any:=by
     intro G
     induction G with
     | nil=>rfl
     | cons p G ih =>
      rw[List.filter_cons]
      split
      ·rename_i hp
       simp only[dJ]
       split
       ·rename_i e;rw[<-e,hq] at hp;cases hp
       ·exact ih
      ·exact ih
    exact this G
   ·exact yP G s
theorem St.cut {l:List Nat} {G:Gam} {R:Rho} {a:Act} {w:World} (h:St B W base G R a w):St B W base (cut l G) R a w:=by
 obtain⟨E,h0,h1,h2⟩:=h
 refine⟨E,h0,h1,h2.size,h2.defers,fun s=>?_,fun s=>?_,h2.par⟩
 ·rcases yP (l:=l) G s with e|e
  ·rw[e];exact h2.wf s
  ·rw[e];trivial
 ·rcases yP (l:=l) G s with e|e
  ·rw[e];exact h2.holds s
  ·rw[e];trivial
theorem OE:∀ (G:Gam) (s:Nat),dJ G s=.any\/∃ p ∈ G,p.1=s
 | [],s=>.inl rfl
 | (q,k)::G,s=>by
  simp only[dJ]
  split
  ·rename_i e;exact .inr ⟨_,List.mem_cons_self ..,e.symm⟩
  ·rcases OE G s with h|⟨p,h1,h2⟩
   ·exact .inl h
   ·exact .inr ⟨p,List.mem_cons_of_mem _ h1,h2⟩
theorem a0d:∀ (R:Rho) (s:Nat),aV R s=.none\/∃ p ∈ R,p.1=s
 | [],s=>.inl rfl
 | (q,k)::R,s=>by
  simp only[aV]
  split
  ·rename_i e;exact .inr ⟨_,List.mem_cons_self ..,e.symm⟩
  ·rcases a0d R s with h|⟨p,h1,h2⟩
   ·exact .inl h
   ·exact .inr ⟨p,List.mem_cons_of_mem _ h1,h2⟩
theorem PD {F:Nat->Prop} {w:World}:∀ {ps qs:List Part} {cs:List Value},leP ps qs->chunks (iQ F w) cs ps->chunks (iQ F w) cs qs
 | [],[],_,_,h=>h
 | p::ps,q::qs,cs,⟨h1,h2⟩,⟨c1,c2,k1,k2,k3⟩=>by
  refine⟨c1,c2,k1,?_,PD h2 k3⟩
  obtain⟨pt,px⟩:=p
  obtain⟨qt,qx⟩:=q
  obtain⟨e,h3⟩:=fO h1
  simp only at e
  subst e
  have h3:px=qx:=h3
  subst h3
  exact k2
 | [],_::_,_,h,_=>h.elim
 | _::_,[],_,h,_=>h.elim
def OU (E:Env) (r:Nat):Option (List Nat)->Option (List Nat)->Nat->Value
 | some l,none,i=>match l[i]? with
  | some j=>E.inn r j
  | none=>undef
 | _,_,i=>E.inn r i
def vJ (E:Env) (r:Nat):Res->Res->Nat->Value
 | .mat _ _ _ ids _ _,.mat _ _ _ oV _ _,i=>OU E r ids oV i
 | _,_,_=>undef
def iV (E:Env) (R R':Rho):Env:=⟨fun r=>if (aV R' r).FC then none else E.blk r,fun r=>if (aV R r).isNone then .slice none 0 0 else E.sl r,E.base,fun r=>vJ E r (aV R r) (aV R' r),E.tH,E.par⟩
theorem a5v {E:Env} {r:Nat} {x y:Res} {i q:Nat} (h:bU (vJ E r x y i)=some q):∃ j,bU (E.inn r j)=some q:=by
 unfold vJ at h
 split at h
 ·unfold OU at h
  split at h
  ·split at h
   ·exact⟨_,h⟩
   ·cases h
  ·exact⟨_,h⟩
 ·cases h
theorem XJ {E:Env} {R R':Rho} {r j q:Nat} (h:(iV E R R').has r j q):∃ j',E.has r j' q/\(j=0↔j'=0):=by
 cases j with
 | zero =>
  have h:(if (aV R' r).FC then none else E.blk r)=some q:=h
  split at h
  ·cases h
  ·exact⟨0,h,Iff.rfl⟩
 | succ i =>
  obtain⟨j,h⟩:=a5v h
  exact⟨j+1,h,by simp⟩
theorem a8i {t t':Ty} {ids oV:Option (List Nat)} {xss:List (List t.den)} {yss:List (List t'.den)} (h:leM ids oV xss yss) (hn:∀ l,ids=some l->oV≠none):ids=oV/\jO (.list (.list t)) (.list (.list t')) xss=some yss:=by
 unfold leM at h
 split at h
 ·exact absurd rfl (hn _ rfl)
 ·exact h
theorem a5w {E:Env} {r:Nat} {R R':Rho} {x y:Res} {i i' q:Nat} (hE:∀ a c,bU (E.inn r a)=some q->bU (E.inn r c)=some q->a=c) (h:leR R R' x y) (e1:bU (vJ E r x y i)=some q) (e2:bU (vJ E r x y i')=some q):i=i':=by
 cases x<;>first|(cases y<;>cases e1;done)|skip
 cases y<;>first|(cases e1;done)|skip
 rename_i e0 e02 t0 a5t xss v0 el el2 t ids yss v
 by_cases hn:∃ l,a5t=some l/\ids=none
 ·obtain⟨l,rfl,rfl⟩:=hn
  have hnd:l.Nodup:=h.2.2.2.1
  simp only[vJ,OU] at e1 e2
  split at e1<;>first|(cases e1;done)|skip
  rename_i a ha
  split at e2<;>first|(cases e2;done)|skip
  rename_i c hc
  have hac:=hE a c e1 e2
  subst hac
  obtain⟨i1,i2⟩:=List.getElem?_eq_some_iff.1 ha
  obtain⟨i3,i4⟩:=List.getElem?_eq_some_iff.1 hc
  rcases Nat.lt_trichotomy i i' with hl|hl|hl
  ·exact absurd (i2.trans i4.symm) (List.pairwise_iff_getElem.1 hnd i i' i1 i3 hl)
  ·exact hl
  ·exact absurd (i4.trans i2.symm) (List.pairwise_iff_getElem.1 hnd i' i i3 i1 hl)
 ·have hin:∀ i,vJ E r (.mat e0 e02 t0 a5t xss v0) (.mat el el2 t ids yss v) i=E.inn r i:=fun i=>by
   cases a5t with
   | none=>rfl
   | some l=>cases ids with
    | none=>exact absurd ⟨l,rfl,rfl⟩ hn
    | some l'=>rfl
  rw[hin] at e1 e2
  exact hE i i' e1 e2
theorem a2m {E:Env} {R R':Rho} {w:World} (hF:∀ b,fz w E b->fz w (iV E R R') b) {k k':K} {v:Value} (hl:leK R R' k k') (hw:k.wf (aV R)) (hk:k.holds E (aV R) w v):k'.wf (aV R')/\k'.holds (iV E R R') (aV R') w v:=by
 have hsl:∀ r,(aV R r).isNone=false->(iV E R R').sl r=E.sl r:=fun r hn=>by
  show (if (aV R r).isNone then _ else _)=_;rw[hn];rfl
 have hblk:∀ r,(aV R' r).FC=false->(iV E R R').blk r=E.blk r:=fun r hn=>by
  show (if (aV R' r).FC then none else E.blk r)=_;rw[hn];rfl
 have hrn:∀ v r,Res.isRow v (aV R r)->(aV R r).isNone=false:=fun v r h=>by
  cases e3:aV R r<;>rw[e3] at h<;>first|exact h.elim|rfl
 have b0b:∀ r,Res.isRow 0 (aV R' r)->Res.eH 0 (aV R' r):=fun r h=>by
  cases e3:aV R' r<;>rw[e3] at h<;>first|exact h.elim|exact Nat.zero_le _
 have b1j:∀ r,Res.mD 0 (aV R' r)->Res.eH 0 (aV R' r):=fun r h=>by
  cases e3:aV R' r<;>rw[e3] at h<;>first|exact h.elim|exact Nat.zero_le _
 have hcnt:∀ r,MH (aV R r) (aV R' r)->(aV R r).cnt=(aV R' r).cnt/\(iV E R R').inn r=E.inn r:=fun r h=>by
  have:(iV E R R').inn r=vJ E r (aV R r) (aV R' r):=rfl
  rw[this]
  cases e3:aV R r<;>rw[e3] at h<;>first|exact h.elim|skip
  cases e4:aV R' r<;>rw[e4] at h<;>first|exact h.elim|skip
  obtain⟨h1,h2⟩:=h
  subst h1
  refine⟨h2,?_⟩
  funext i
  rename_i ids _ _ _ _ _ _ _
  cases ids<;>rfl
 cases k' with
 | any=>exact⟨trivial,trivial⟩
 | val t y =>
  cases k<;>first|exact hl.elim|skip
  ·obtain⟨rfl,rfl⟩:=fO hl
   exact⟨trivial,gU hF (jE.refl _ _) hk⟩
  ·cases t<;>first|exact hl.elim|skip
   have hl:y=[]:=hl
   subst hl
   exact⟨trivial,[.slice none 0 0],hk,none,0,rfl,by simp,by omega,.inl rfl⟩
 | nil=>cases k<;>first|exact hl.elim|exact⟨trivial,hk⟩
 | ptr r o =>
  cases k<;>first|exact hl.elim|skip
  obtain⟨rfl,rfl,j1,j2⟩:=hl
  obtain⟨b,n1,n2⟩:=hk
  refine⟨j2,b,?_,n2⟩
  rw[hblk _ (by cases e3:aV R' _<;>rw[e3] at j2<;>first|exact j2.elim|rfl)];exact n1
 | own r v =>
  cases v with
  | succ n =>
   cases k<;>first|exact hl.elim|skip
   obtain⟨_,j2,_⟩:=hl
   cases j2
  | zero =>
   cases k<;>first|exact hl.elim|skip
   ·obtain⟨j1,j2⟩:=hl
    refine⟨?_,fun _=>?_⟩
    ·show Res.eH 0 (aV R' r)
     cases e3:aV R' r<;>rw[e3] at j2<;>first|exact j2.elim|exact Nat.zero_le _
    ·have:(iV E R R').sl r=.slice none 0 0:=by
      show (if (aV R r).isNone then _ else _)=_
      cases e3:aV R r<;>rw[e3] at j1<;>first|exact j1.elim|rfl
     rw[this];exact hk
   ·obtain⟨rfl,_,j1,j2⟩:=hl
    exact⟨b0b _ j2,fun _=>by rw[hsl _ (hrn _ _ j1)];exact hk j1⟩
 | cell r v i =>
  cases k<;>first|exact hl.elim|skip
  obtain⟨rfl,rfl,rfl,j1,j2,j3⟩:=hl
  refine⟨b0b _ j2,fun _=>?_⟩
  rw[hsl _ (hrn _ _ j1),<-j3]
  exact hk j1
 | mrow r v i =>
  cases k<;>first|exact hl.elim|skip
  obtain⟨rfl,rfl,rfl,j1,j2,j3⟩:=hl
  obtain⟨c1,c2⟩:=hcnt _ j3
  refine⟨⟨b1j _ j2,fun _=>?_⟩,fun _=>?_⟩
  ·rw[<-c1];exact hw.2 j1
  ·rw[c2];exact hk j1
 | mpos r v i j =>
  cases k<;>first|exact hl.elim|skip
  obtain⟨⟨rfl,rfl,rfl,rfl,j1,j2⟩,j3,j4⟩:=hl
  obtain⟨c1,c2⟩:=hcnt _ j3
  refine⟨⟨b1j _ j2,fun _=>?_⟩,fun _=>?_⟩
  ·rw[<-c1];exact hw.2 j1
  ·rw[c2,<-j4];exact hk j1
 | lK r =>
  cases k<;>first|exact hl.elim|skip
  obtain⟨rfl,j1,j2⟩:=hl
  refine⟨j1,fun hb=>?_⟩
  rw[hblk _ (by cases e3:aV R' _<;>rw[e3] at hb<;>first|exact hb.elim|rfl)]
  exact hk (j2 hb)
 | when b k=>cases k<;>exact(by cases ‹K›<;>exact hl.elim)
 | tup ts x=>cases k<;>exact hl.elim
 | mix ks=>cases k<;>exact hl.elim
 | sng r v=>cases k<;>exact hl.elim
 | fn g ks' =>
  cases k<;>first|exact hl.elim|skip
  rename_i ks
  obtain⟨rfl,hl⟩:=hl
  obtain⟨vs,rfl,hk⟩:=hk
  have:∀ (ks ks':List K0) (vs:List Value),OZ R R' ks ks'->mW (fz w E) E (aV R) w ks vs->(∀ k ∈ ks',LC (aV R') k)/\mW (fz w (iV E R R')) (iV E R R') (aV R') w ks' vs:=by
   intro ks
   induction ks with
   | nil =>
    intro ks' vs hl hk
    cases ks' with
    | nil=>exact⟨fun k h=>(by cases h),hk⟩
    | cons _ _=>exact hl.elim
   | cons k ks ih =>
    intro ks' vs hl ⟨v,vs',e1,e2,e3⟩
    cases ks' with
    | nil=>cases k<;>exact hl.elim
    | cons k' ks' =>
     have key:OZ R R' ks ks'->LC (aV R') k'->a4b (fz w (iV E R R')) (iV E R R') (aV R') w k' v->(∀ k ∈ k'::ks',LC (aV R') k)/\mW (fz w (iV E R R')) (iV E R R') (aV R') w (k'::ks') vs:=fun h1 h2 h3=>by
      obtain⟨i1,i2⟩:=ih ks' vs' h1 e3
      refine⟨fun k hk=>?_,v,vs',e1,h3,i2⟩
      rcases List.mem_cons.1 hk with rfl|hk
      ·exact h2
      ·exact i1 k hk
     cases k<;>cases k'<;>first|exact hl.elim|skip
     ·obtain⟨h1,h2⟩:=hl
      obtain⟨rfl,rfl⟩:=fO h1
      exact key h2 trivial (gU hF (jE.refl _ _) e2)
     ·obtain⟨⟨rfl,rfl,j1,j2⟩,h2⟩:=hl
      obtain⟨b,n1,n2⟩:=e2
      exact key h2 j2 ⟨b,by rw[hblk _ (by cases e3:aV R' _<;>rw[e3] at j2<;>first|exact j2.elim|rfl)];exact n1,n2⟩
     ·obtain⟨⟨rfl,j1,j2⟩,h2⟩:=hl
      exact key h2 j1 (fun hb=>by
       rw[hblk _ (by cases e3:aV R' _<;>rw[e3] at hb<;>first|exact hb.elim|rfl)]
       exact e2 (j2 hb))
  obtain⟨q1,q2⟩:=this ks ks' vs hl hk
  exact⟨q1,vs,rfl,q2⟩
theorem b6T {G G':Gam} {R R':Rho} {a:Act} {w:World} (h:St B W base G R a w) (hk:∀ s,leK R R' (dJ G s) (dJ G' s)\/(dJ G' s=dJ G s/\(dJ G s).res=[])) (hr:∀ r,leR R R' (aV R r) (aV R' r)):St B W base G' R' a w:=by
 obtain⟨E,h0,h1,h2⟩:=h
 have hF:∀ q,fz w E q->fz w (iV E R R') q:=fun q hq=>yN hq.1.1 hq.1.2 (fun r j e=>by
  obtain⟨j',e',_⟩:=XJ e
  exact qK hq r j' e')
 have hs:=jE.refl (fz w E) w
 have a0k:∀ (ks:List K0) (vs:List Value),(∀ k ∈ ks,OW k=[])->mW (fz w E) E (aV R) w ks vs->mW (fz w (iV E R R')) (iV E R R') (aV R') w ks vs:=by
  intro ks
  induction ks with
  | nil=>intro vs _ h;exact h
  | cons k ks ih =>
   intro vs hk ⟨v,vs',e1,e2,e3⟩
   refine⟨v,vs',e1,?_,ih vs' (fun k hk'=>hk k (List.mem_cons_of_mem _ hk')) e3⟩
   have h0:=hk k (List.mem_cons_self ..)
   cases k with
   | val t x=>exact gU hF hs e2
   | _=>simp[OW] at h0
 have hsl:∀ r,(aV R r).isNone=false->(iV E R R').sl r=E.sl r:=fun r hn=>by
  show (if (aV R r).isNone then _ else _)=_;rw[hn];rfl
 have hblk:∀ r,(aV R' r).FC=false->(iV E R R').blk r=E.blk r:=fun r hn=>by
  show (if (aV R' r).FC then none else E.blk r)=_;rw[hn];rfl
 have b6G:∀ r,(aV R' r).FC=true->(iV E R R').blk r=none:=fun r hn=>by
  show (if (aV R' r).FC then none else E.blk r)=_;rw[hn];rfl
 have IL:∀ r i,(iV E R R').inn r i=vJ E r (aV R r) (aV R' r) i:=fun _ _=>rfl
 have hnil:∀ r,lW E w r Res.none->(iV E R R').sl r=.slice none 0 0->(aV R' r).FC=false->(iV E R R').blk r=bU ((iV E R R').sl r):=fun r k2 hsl hn=>by
  rw[hblk r hn,hsl];exact k2
 have hres:∀ r,lW (iV E R R') w r (aV R' r):=fun r=>by
  have k2:=h1.res r
  have k1:=hr r
  cases e':aV R' r with
  | none=>exact b6G r (by rw[e'];rfl)
  | gone=>exact b6G r (by rw[e'];rfl)
  | kT k=>trivial
  | box qs =>
   rw[e'] at k1
   cases e:aV R r<;>rw[e] at k1<;>first|exact k1.elim|skip
   rw[e] at k2
   obtain⟨b,cs,el,j1,j3,j4⟩:=k2
   exact⟨b,cs,el,(hblk r (by rw[e'];rfl)).trans j1,j3,PD k1 (bF (fun c p=>iQ.mono hF hs) _ _ j4)⟩
  | row el t ys v =>
   rw[e'] at k1
   cases e:aV R r<;>rw[e] at k1<;>first|exact k1.elim|skip
   ·rw[e] at k2
    obtain⟨j1,j2,j3⟩:=k1
    have hsl:(iV E R R').sl r=.slice none 0 0:=by show (if (aV R r).isNone then _ else _)=_;rw[e];rfl
    refine⟨hnil r k2 hsl (by rw[e'];rfl),j3,[],?_,?_,?_⟩
    ·rw[hsl,j1];exact World.ownsRow_nil w _ _ _
    ·rw[j1];exact rfl
    ·rw[hsl];intro g hg;cases hg
   ·rename_i el0 t0 xs v0
    rw[e] at k2
    obtain⟨j1,j2,j3⟩:=k1
    subst j1
    obtain⟨ee,j3⟩:=fO j3
    simp only[Ty.list.injEq] at ee
    subst ee
    have j3:xs=ys:=j3
    subst j3
    obtain⟨n1,n2,cs,n3,n4,n5⟩:=k2
    have hsl:=hsl r (by rw[e];rfl)
    exact⟨by rw[hblk r (by rw[e'];rfl),hsl];exact n1,n2,cs,by rw[hsl];exact n3,bF (fun c y=>dB hF hs t0 c y) _ _ n4,by rw[hsl];exact n5⟩
  | fro t ys v =>
   rw[e'] at k1
   cases e:aV R r<;>rw[e] at k1<;>first|exact k1.elim|skip
   rename_i t0 xs v0
   rw[e] at k2
   obtain⟨j2,j3⟩:=k1
   obtain⟨ee,j3⟩:=fO j3
   simp only[Ty.list.injEq] at ee
   subst ee
   have j3:xs=ys:=j3
   subst j3
   exact⟨(hblk r (by rw[e'];rfl)).trans k2.1,by rw[hsl r (by rw[e];rfl)];exact gU hF hs k2.2⟩
  | mat el el2 t ids yss v =>
   rw[e'] at k1
   cases e:aV R r<;>rw[e] at k1<;>first|exact k1.elim|skip
   ·rw[e] at k2
    obtain⟨rfl,j1,j2,j3⟩:=k1
    have hsl:(iV E R R').sl r=.slice none 0 0:=by show (if (aV R r).isNone then _ else _)=_;rw[e];rfl
    have hin:∀ i,bU ((iV E R R').inn r i)=none:=fun i=>by rw[IL,e,e'];rfl
    subst j1
    refine⟨hnil r k2 hsl (by rw[e'];rfl),j3,⟨[],?_,rfl,?_⟩,fun i hi=>?_,fun i _=>hin i,fun i xs hi=>?_⟩
    ·rw[hsl];exact World.ownsRow_nil w _ _ _
    ·rw[hsl];intro g hg;cases hg
    ·simp[dV] at hi
    ·simp at hi
   ·rename_i el0 b8Y t0 a5t xss v0
    rw[e] at k2
    obtain⟨j1,j2,j3,j4⟩:=k1
    subst j1 j2
    obtain⟨n1,n2,⟨cs,n3,n4,n5⟩,n6,n7,n8⟩:=k2
    have hsl:=hsl r (by rw[e];rfl)
    have hbl:=hblk r (by rw[e'];rfl)
    by_cases hn:∃ l,a5t=some l/\ids=none
    ·obtain⟨l,rfl,rfl⟩:=hn
     obtain⟨j4,j5⟩:=j4
     obtain⟨ee,j5⟩:=fO j5
     simp only[Ty.list.injEq] at ee
     subst ee
     have j5:(l.map fun i=>xss.getD i [])=yss:=j5
     have hlen:yss.length=l.length:=by rw[<-j5];simp
     have hin:∀ i j,l[i]?=some j->(iV E R R').inn r i=E.inn r j:=fun i j hi=>by rw[IL,e,e'];simp only[vJ,OU,hi]
     have hin0:∀ i,l[i]?=none->bU ((iV E R R').inn r i)=none:=fun i hi=>by rw[IL,e,e'];simp only[vJ,OU,hi];rfl
     refine⟨by rw[hbl,hsl];exact n1,n2,⟨cs,?_,?_,by rw[hsl];exact n5⟩,fun i hi=>by simpa [dV] using hi,fun i hi=>hin0 i (List.getElem?_eq_none (by omega)),fun i xs hi=>?_⟩
     ·rw[hsl]
      have:(dV (none:Option (List Nat)) yss).length=(dV (some l) xss).length:=by simp[dV,hlen]
      rw[this];exact n3
     ·rw[n4]
      simp only[dV]
      apply List.ext_getElem?
      intro i
      rw[List.getElem?_map,List.getElem?_map,hlen]
      by_cases hi:i<l.length
      ·rw[List.getElem?_range hi,List.getElem?_eq_getElem hi]
       simp only[Option.map_some]
       rw[hin i l[i] (List.getElem?_eq_getElem hi)]
      ·rw[List.getElem?_eq_none (by simpa using hi),List.getElem?_eq_none (l:=List.range l.length) (by simpa using hi)]
       rfl
     ·rw[<-j5,List.getElem?_map] at hi
      cases hj:l[i]? with
      | none=>rw[hj] at hi;cases hi
      | some j =>
       rw[hj] at hi
       simp only[Option.map_some,Option.some.injEq] at hi
       have hjl:j<xss.length:=n6 j (by simp only[dV];exact List.mem_of_getElem? hj)
       obtain⟨ds,q1,q2,q3⟩:=n8 j xs (by rw[<-hi,List.getD_eq_getElem?_getD,List.getElem?_eq_getElem hjl];rfl)
       exact⟨ds,by rw[hin i j hj];exact q1,bF (fun c y=>dB hF hs t0 c y) _ _ q2,by rw[hin i j hj];exact q3⟩
    ·obtain⟨j4,j5⟩:=a8i j4 (fun l e1 e2=>hn ⟨l,e1,e2⟩)
     subst j4
     obtain⟨ee,j5⟩:=fO j5
     simp only[Ty.list.injEq] at ee
     subst ee
     have j5:xss=yss:=j5
     subst j5
     have hin:(iV E R R').inn r=E.inn r:=by
      funext i
      rw[IL,e,e']
      cases a5t<;>rfl
     exact⟨by rw[hbl,hsl];exact n1,n2,⟨cs,by rw[hsl];exact n3,by rw[hin];exact n4,by rw[hsl];exact n5⟩,n6,by rw[hin];exact n7,fun i xs hi=>by
      obtain⟨ds,q1,q2,q3⟩:=n8 i xs hi
      exact⟨ds,by rw[hin];exact q1,bF (fun c y=>dB hF hs t0 c y) _ _ q2,by rw[hin];exact q3⟩⟩
 refine⟨iV E R R',h0,⟨h1.below,hres,fun r j r' j' q e1 e2=>?_,fun r j b e=>?_,h1.base,fun r i hi=>?_,fun r k e'=>?_,h1.dig⟩,h2.size,h2.defers,fun s=>?_,fun s=>?_,h2.par⟩
 ·obtain⟨i,f1,g1⟩:=XJ e1
  obtain⟨i',f2,g2⟩:=XJ e2
  obtain⟨rfl,rfl⟩:=h1.inj _ _ _ _ _ f1 f2
  refine⟨rfl,?_⟩
  cases j with
  | zero=>cases j' with
   | zero=>rfl
   | succ j'=>exact absurd (g2.2 (g1.1 rfl)) (by simp)
  | succ j=>cases j' with
   | zero=>exact absurd (g1.2 (g2.1 rfl)) (by simp)
   | succ j' =>
    have e1:bU (vJ E r (aV R r) (aV R' r) j)=some q:=e1
    have e2:bU (vJ E r (aV R r) (aV R' r) j')=some q:=e2
    rw[a5w (fun a c ha hc=>by have:=(h1.inj r (a+1) r (c+1) q ha hc).2;omega) (hr r) e1 e2]
 ·obtain⟨j',e',_⟩:=XJ e
  exact h1.mine r j' b e'
 ·have k1:=hres r
  cases e':aV R' r with
  | mat el el2 t ids yss v =>
   rw[e'] at k1 hi
   exact k1.2.2.2.2.1 i hi
  | _=>rw[IL,e'];cases aV R r<;>rfl
 ·have k1:=hr r
  rw[e'] at k1
  cases e:aV R r<;>rw[e] at k1<;>first|exact k1.elim|skip
  obtain⟨o1,o2⟩:=k1
  obtain⟨q1,q2,b,v,t,q3,q4,q5,q6⟩:=h1.kbx r _ e
  obtain⟨p1,p2⟩:=a2m hF o2 q1 q6
  exact⟨p1,o1,b,v,t,(hblk r (by rw[e'];rfl)).trans q3,q4,q5,p2⟩
 all_goals rcases hk s with k1|⟨keq,OX⟩
 ·exact(a2m hF k1 (h2.wf s) (h2.holds s)).1
 rotate_left
 ·exact(a2m hF k1 (h2.wf s) (h2.holds s)).2
 rotate_left
 all_goals
  rw[keq]
  have hw:=h2.wf s
  have k2:=h2.holds s
  revert hw OX k2
  generalize dJ G s=k9
  intro OX hw k2
 ·clear k2
  induction k9 with
  | when b k ih=>exact fun hb=>ih OX (hw hb)
  | mix ks =>
   intro k hk
   cases k with
   | val t x=>trivial
   | own r v =>
    have:r ∈ (K.mix ks).res:=List.mem_flatMap.2 ⟨_,hk,List.mem_singleton.2 rfl⟩
    rw[OX] at this;cases this
   | _=>exact(by
    have:_ ∈ (K.mix ks).res:=List.mem_flatMap.2 ⟨_,hk,List.mem_singleton.2 rfl⟩
    rw[OX] at this;cases this)
  | fn g ks =>
   intro k hk
   cases k with
   | val t x=>trivial
   | _=>exact(by
    have:_ ∈ (K.fn g ks).res:=List.mem_flatMap.2 ⟨_,hk,List.mem_singleton.2 rfl⟩
    rw[OX] at this;cases this)
  | _=>first|trivial|(simp[K.res] at OX;done)
 ·induction k9 with
  | any=>trivial
  | val t y=>exact gU hF hs k2
  | nil=>exact k2
  | tup ts y=>obtain⟨vs,j1,j2⟩:=k2;exact⟨vs,j1,jU hF hs ts vs y j2⟩
  | when b k ih=>exact fun hb=>ih OX (hw hb) (k2 hb)
  | mix ks =>
   obtain⟨vs,j1,j2⟩:=k2
   refine⟨vs,j1,?_⟩
   exact a0k ks vs (fun k hk=>by
    cases hkr:OW k with
    | nil=>rfl
    | cons r l =>
     have:r ∈ (K.mix ks).res:=List.mem_flatMap.2 ⟨k,hk,by rw[hkr];exact List.mem_cons_self ..⟩
     rw[OX] at this;cases this) j2
  | fn g ks =>
   obtain⟨vs,j1,j2⟩:=k2
   exact⟨vs,j1,a0k ks vs (fun k hk=>by
    cases hkr:OW k with
    | nil=>rfl
    | cons r l =>
     have:r ∈ (K.fn g ks).res:=List.mem_flatMap.2 ⟨k,hk,by rw[hkr];exact List.mem_cons_self ..⟩
     rw[OX] at this;cases this) j2⟩
  | _=>simp[K.res] at OX
def Post (B:Book) (W:World) (base:Fix) (Q:Exit->Gam->Rho->Prop) (e:Exit) (a:Act) (w:World):Prop:=∃ G R,Q e G R/\St B W base G R a w
theorem YD (hB:B.Ok) (hm:B.P.follows .mixedOrders=true) {id:Nat} {ops:Array Oper} {draw:Bool} {G:Gam} {R:Rho} {vc:List Prop} {G':Gam} {R':Rho} {Q:Exit->Gam->Rho->Prop} {a:Act} {w:World}
  (h:rO B ops draw G R=some (vc,G',R')) (hv:eU vc) (hq:Q .normal G' R') (hs:St B W base G R a w):(Code.region id ops draw).wp B.P (Post B W base Q) a w:=by
 obtain⟨E,h0,h1,h2⟩:=hs
 unfold rO at h
 cases draw with
 | true =>
  simp only[if_true] at h
  split at h<;>first|(cases h;done)|skip
  rename_i vc1 ss G1 R1 b2h
  split at h<;>first|(cases h;done)|skip
  rename_i hb
  simp only[Bool.and_eq_true] at hb
  simp only[Option.some.injEq,Prod.mk.injEq] at h
  obtain⟨rfl,rfl,rfl⟩:=h
  exact a4P hB hm b2h hb.1.1 hb.1.2 hb.2 hv h1 h2 (fun E' a' w' m0 m1 m2=>⟨_,_,hq,E',m0.trans h0,m1,m2⟩)
 | false =>
  simp only[Bool.false_eq_true,if_false] at h
  exact wp_region_list (VE hB h hv h1 h2 (fun E' a' w' m0 m1 m2=>⟨_,_,hq,E',m0.trans h0,m1,m2⟩))
theorem UY {c:Code} {ι:Type} (I:ι->Act->World->Prop) (m:ι->Nat) {Q:Exit->Act->World->Prop} (h:∀ i a w,I i a w->c.wp B.P (Exit.then (fun a' w'=>∃ i',m i'<m i/\I i' a' w') Q) a w):∀ n i a w,m i<n->I i a w->Code.rounds B.P c Q n a w
 | 0,i,a,w,hn,hi=>by omega
 | n+1,i,a,w,hn,hi=>by
  rw[rounds_succ]
  refine wp_mono (h i a w hi) (fun e a' w' hq=>?_)
  cases e with
  | normal =>
   obtain⟨i',h1,h2⟩:=hq
   exact UY I m h n i' a' w' (by omega) h2
  | _=>exact hq
def leL (G:Gam) (R:Rho) (S:Gam) (Z:Rho) (l:List Nat):List Prop :=
 S.map (fun p=>leK R Z (dJ G p.1) p.2)++(cut (S.map (·.1)++l) G).flatMap (fun p=>if (dJ G p.1).res.isEmpty then [] else [leK R Z (dJ G p.1) (jH (dJ G p.1))])++Z.map (fun p=>leR R Z (aV R p.1) p.2)
theorem OD:∀ (S G:Gam) (s:Nat),(∃ p ∈ S,p.1=s/\dJ (S++G) s=dJ S s)\/((∀ p ∈ S,p.1≠s)/\dJ (S++G) s=dJ G s)
 | [],G,s=>.inr ⟨fun p hp=>(by cases hp),rfl⟩
 | (q,k)::S,G,s=>by
  simp only[List.cons_append,dJ]
  by_cases e:s=q
  ·left
   exact⟨(q,k),List.mem_cons_self ..,e.symm,by rw[if_pos e,if_pos e]⟩
  ·rw[if_neg e,if_neg e]
   rcases OD S G s with⟨p,h1,h2,h3⟩|⟨h1,h2⟩
   ·exact .inl ⟨p,List.mem_cons_of_mem _ h1,h2,h3⟩
   ·refine .inr ⟨fun p hp=>?_,h2⟩
    rcases List.mem_cons.1 hp with rfl|hp
    ·exact fun e'=>e e'.symm
    ·exact h1 p hp
theorem wI:∀ {S:Gam} {s:Nat},(∃ p ∈ S,p.1=s)->∃ p ∈ S,p.1=s/\dJ S s=p.2
 | (q,k)::S,s,⟨p,hp,he⟩=>by
  simp only[dJ]
  by_cases e:s=q
  ·exact⟨(q,k),List.mem_cons_self ..,e.symm,by rw[if_pos e]⟩
  ·rw[if_neg e]
   rcases List.mem_cons.1 hp with rfl|hp
   ·exact absurd he.symm e
   ·obtain⟨p',h1,h2,h3⟩:=wI ⟨p,hp,he⟩
    exact⟨p',List.mem_cons_of_mem _ h1,h2,h3⟩
 | [],s,⟨p,hp,_⟩=>by cases hp
theorem OH:∀ {S:Rho} {s:Nat},(∃ p ∈ S,p.1=s)->∃ p ∈ S,p.1=s/\aV S s=p.2
 | (q,k)::S,s,⟨p,hp,he⟩=>by
  simp only[aV]
  by_cases e:s=q
  ·exact⟨(q,k),List.mem_cons_self ..,e.symm,by rw[if_pos e]⟩
  ·rw[if_neg e]
   rcases List.mem_cons.1 hp with rfl|hp
   ·exact absurd he.symm e
   ·obtain⟨p',h1,h2,h3⟩:=OH ⟨p,hp,he⟩
    exact⟨p',List.mem_cons_of_mem _ h1,h2,h3⟩
 | [],s,⟨p,hp,_⟩=>by cases hp
theorem a2n {G:Gam} {R:Rho} {S:Gam} {Z:Rho} {l:List Nat} {a:Act} {w:World} (h:St B W base G R a w) (hl:eU (leL G R S Z l)):St B W base (S++pG (cut (S.map (·.1)++l) G)) Z a w:=by
 obtain⟨h12,h3⟩:=bK.1 hl
 obtain⟨h1,h2⟩:=bK.1 h12
 have hRr:∀ r,leR R Z (aV R r) (aV Z r):=fun r=>by
  rcases a0d Z r with e|hm
  ·rw[e];cases aV R r<;>trivial
  ·obtain⟨p',j1,rfl,j3⟩:=OH hm
   rw[j3]
   exact MP h3 (List.mem_map.2 ⟨p',j1,rfl⟩)
 refine b6T h (fun s=>?_) hRr
 rcases OD S (pG (cut (S.map (·.1)++l) G)) s with⟨p,k1,k2,k3⟩|⟨k1,k2⟩
 ·left
  rw[k3]
  obtain⟨p',j1,rfl,j3⟩:=wI ⟨p,k1,k2⟩
  rw[j3]
  exact MP h1 (List.mem_map.2 ⟨p',j1,rfl⟩)
 ·rw[k2,sD]
  rcases yP (l:=S.map (·.1)++l) G s with e|e
  ·rcases OE (cut (S.map (·.1)++l) G) s with e2|hm
   ·left;rw[e2];cases dJ G s<;>trivial
   ·obtain⟨p',j1,rfl,j3⟩:=wI hm
    by_cases hc:(dJ G p'.1).res.isEmpty=true
    ·right
     have h0:(dJ G p'.1).res=[]:=List.isEmpty_iff.1 hc
     rw[e]
     exact⟨a2M h0,h0⟩
    ·left
     rw[e]
     exact MP h2 (List.mem_flatMap.2 ⟨p',j1,by rw[if_neg hc];exact List.mem_singleton.2 rfl⟩)
  ·left;rw[e];cases dJ G s<;>trivial
theorem St.congr {G G':Gam} {R:Rho} {a:Act} {w:World} (h:St B W base G R a w) (hg:∀ s,dJ G' s=dJ G s):St B W base G' R a w:=by
 obtain⟨E,h0,h1,h2⟩:=h
 exact⟨E,h0,h1,h2.size,h2.defers,fun s=>by rw[hg];exact h2.wf s,fun s=>by rw[hg];exact h2.holds s,h2.par⟩
end
def a4I (n:Gam->Rho->Prop) (Q:Exit->Gam->Rho->Prop):Exit->Gam->Rho->Prop
 | .normal,G,R=>n G R
 | e,G,R=>Q e G R
def a6R (id:Nat) (Q:Exit->Gam->Rho->Prop):Exit->Gam->Rho->Prop
 | .exit i,G,R=>if i=id then Q .normal G R else Q (.exit i) G R
 | e,G,R=>Q e G R
inductive Ann:Type 1 where
 | inv (ι:Type) (S:ι->Gam) (Z:ι->Rho) (m:ι->Nat) (i0:ι) (sub:ι->List Ann)
 | rounds (n:Nat) (l:List Nat) (sub:List Ann)
 | turns (n:Nat) (l k:List Nat) (sub:List Ann)
def nl:Code->Nat
 | .seq a b=>nl a+nl b
 | .cond _ a b=>nl a+nl b
 | .block _ c=>nl c
 | .loop _=>1
 | _=>0
def YM (F:(Exit->Gam->Rho->Prop)->Gam->Rho->Prop) (l:List Nat) (Q:Exit->Gam->Rho->Prop):Nat->Gam->Rho->Prop
 | 0,_,_=>False
 | n+1,G,R=>F (a4I (fun G R=>YM F l Q n (cut l G) R) Q) G R
def b2I:Res->Res
 | .row e t xs _=>.row e t xs 0
 | .fro t xs _=>.fro t xs 0
 | .mat e e2 t ids xss _=>.mat e e2 t ids xss 0
 | .kT k=>.kT (jH k)
 | x=>x
def VN (G:Gam):List Nat->Gam
 | []=>[]
 | s::l=>match (dJ G s).res with
  | []=>VN G l
  | _=>(s,jH (dJ G s))::VN G l
def a9j (R:Rho):List Nat->Rho
 | []=>[]
 | r::k=>(r,b2I (aV R r))::a9j R k
def less (l k:List Nat):List Nat:=l.filter fun s=>!k.contains s
def IW:K->Bool
 | .any=>true
 | _=>false
theorem IX {k:K}:IW k=true↔k=.any:=by cases k<;>simp[IW]
def b5M (S:Gam) (l:List Nat):Bool:=S.all fun p=>l.contains p.1 || IW p.2
def Res.IY:Res->Bool
 | .box _=>true
 | _=>false
def KF (v:Nat):Res->Bool
 | .mat _ _ _ _ _ v'=>v'==v
 | _=>false
def Res.uF:Res->Bool
 | .kT _=>true
 | _=>false
def Res.a0t:Res->Bool
 | .kT _=>true
 | .gone=>true
 | _=>false
theorem Res.wK {x:Res}:x.uF=true↔x.lV:=by cases x<;>simp[Res.uF,Res.lV]
theorem Res.a0u {x:Res} (h:x.a0t=true):x.BM:=by cases x<;>simp_all [Res.a0t,Res.BM]
theorem EZ {v:Nat} {x:Res} (h:KF v x=true):Res.mD v x:=by cases x<;>simp_all [KF,Res.mD]
theorem Res.AZ {x:Res} (h:x.IY=true):x.fV:=by cases x<;>simp_all [Res.IY,Res.fV]
def a8g (R R':Rho):K->K->Bool
 | _,.any=>true
 | .nil,.nil=>true
 | .ptr r o,.ptr r' o'=>r==r'&&o==o'&&(aV R r).IY&&(aV R' r).IY
 | .own r v,.own r' v'=>r==r'&&v'==0&&FU v (aV R r)&&FU 0 (aV R' r)
 | .lK r,.lK r'=>r==r'&&(aV R' r).a0t&&(!(aV R' r).uF || (aV R r).uF)
 | _,_=>false
theorem b0j {R R':Rho}:∀ {k k':K},a8g R R' k k'=true->leK R R' k k'
 | k,.any,_=>by cases k<;>trivial
 | .nil,.nil,_=>trivial
 | .ptr r o,.ptr r' o',h=>by
  simp only[a8g,Bool.and_eq_true,beq_iff_eq] at h
  exact⟨h.1.1.1,h.1.1.2,Res.AZ h.1.2,Res.AZ h.2⟩
 | .own r v,.own r' v',h=>by
  simp only[a8g,Bool.and_eq_true,beq_iff_eq] at h
  obtain⟨⟨⟨h1,h2⟩,h3⟩,h4⟩:=h
  subst h2
  simp only[leK]
  exact⟨h1,trivial,zK h3,zK h4⟩
 | .lK r,.lK r',h=>by
  simp only[a8g,Bool.and_eq_true,beq_iff_eq,Bool.or_eq_true,Bool.not_eq_true'] at h
  obtain⟨⟨h1,h2⟩,h3⟩:=h
  refine⟨h1,Res.a0u h2,fun hb=>?_⟩
  have:=Res.wK.2 hb
  rw[this] at h3
  exact Res.wK.1 (h3.resolve_left (by simp))
def eqC (t t':Ty) (x:t.den) (y:t'.den):List Prop:=if h:t=t' then [h ▸ x=y] else [False]
theorem yI {t t':Ty} {x:t.den} {y:t'.den} (h:eU (eqC t t' x y)):jO t t' x=some y:=by
 unfold eqC at h
 split at h
 ·rename_i e
  subst e
  unfold jO
  rw[dif_pos rfl]
  exact congrArg some h.1
 ·exact h.1.elim
def b2m (ids oV:Option (List Nat)):List Prop:=match ids,oV with
 | none,none=>[]
 | some l,some l'=>[l=l']
 | _,_=>[False]
theorem b0d {ids oV:Option (List Nat)} (h:eU (b2m ids oV)):ids=oV:=by
 unfold b2m at h
 split at h
 ·rfl
 ·rw[h.1]
 ·exact h.1.elim
def a4D:Res->Res->List Prop
 | .mat _ _ _ ids xss _,.mat _ _ _ oV yss _=>(xss.length=yss.length)::b2m ids oV
 | _,_=>[False]
theorem a1j {x y:Res} (h:eU (a4D x y)):MH x y:=by
 unfold a4D at h
 split at h
 ·exact⟨b0d h.2,h.1⟩
 ·exact h.1.elim
def OY (R R':Rho):List K0->List K0->List Prop
 | [],[]=>[]
 | .val t x::ks,.val t' y::ks'=>eqC t t' x y++OY R R' ks ks'
 | .ptr r o::ks,.ptr r' o'::ks'=>if r==r'&&o==o'&&(aV R r).IY&&(aV R' r).IY then OY R R' ks ks' else [False]
 | .lK r::ks,.lK r'::ks'=>if r==r'&&(aV R' r).a0t&&(!(aV R' r).uF || (aV R r).uF) then OY R R' ks ks' else [False]
 | _,_=>[False]
theorem b0i {R R':Rho} {r r':Nat} (h:(r==r'&&(aV R' r).a0t&&(!(aV R' r).uF || (aV R r).uF))=true):r=r'/\(aV R' r).BM/\((aV R' r).lV->(aV R r).lV):=by
 simp only[Bool.and_eq_true,beq_iff_eq,Bool.or_eq_true,Bool.not_eq_true'] at h
 obtain⟨⟨h1,h2⟩,h3⟩:=h
 refine⟨h1,Res.a0u h2,fun hb=>?_⟩
 have:=Res.wK.2 hb
 rw[this] at h3
 exact Res.wK.1 (h3.resolve_left (by simp))
theorem EU {R R':Rho}:∀ {ks ks':List K0},eU (OY R R' ks ks')->OZ R R' ks ks'
 | [],[],_=>trivial
 | k::ks,[],h=>by cases k<;>exact h.1.elim
 | [],k::ks,h=>h.1.elim
 | k::ks,k'::ks',h=>by
  cases k<;>cases k'<;>first|exact h.1.elim|skip
  ·exact⟨yI (bK.1 h).1,EU (bK.1 h).2⟩
  ·simp only[OY] at h
   split at h<;>first|exact h.1.elim|skip
   rename_i hb
   simp only[Bool.and_eq_true,beq_iff_eq] at hb
   exact⟨⟨hb.1.1.1,hb.1.1.2,Res.AZ hb.1.2,Res.AZ hb.2⟩,EU h⟩
  ·simp only[OY] at h
   split at h<;>first|exact h.1.elim|skip
   rename_i hb
   exact⟨b0i hb,EU h⟩
def a8h (R R':Rho) (k k':K):List Prop:=if a8g R R' k k' then [] else match k,k' with
 | .val t x,.val t' y=>eqC t t' x y
 | .fn g ks,.fn g' ks'=>if g==g' then OY R R' ks ks' else [False]
 | .cell r v i,.cell r' v' i'=>if r==r'&&v'==0&&FU v (aV R r)&&FU 0 (aV R' r)&&(aV R r).esz==(aV R' r).esz then [i=i'] else [False]
 | .mrow r v i,.mrow r' v' i'=>if r==r'&&v'==0&&KF v (aV R r)&&KF 0 (aV R' r) then (i=i')::a4D (aV R r) (aV R' r) else [False]
 | .mpos r v i j,.mpos r' v' i' j'=>if r==r'&&v'==0&&KF v (aV R r)&&KF 0 (aV R' r)&&(aV R r).msz==(aV R' r).msz then (i=i')::(j=j')::a4D (aV R r) (aV R' r) else [False]
 | k,k'=>[leK R R' k k']
theorem XH {R R':Rho} {k k':K} (h:eU (a8h R R' k k')):leK R R' k k':=by
 unfold a8h at h
 split at h
 ·rename_i e;exact b0j e
 ·split at h
  ·exact yI h
  ·split at h<;>first|exact h.1.elim|skip
   rename_i hb
   exact⟨by simpa using hb,EU h⟩
  ·split at h<;>first|exact h.1.elim|skip
   rename_i hb
   simp only[Bool.and_eq_true,beq_iff_eq] at hb
   obtain⟨⟨⟨⟨h1,h2⟩,h3⟩,h4⟩,h5⟩:=hb
   exact⟨h1,h.1,h2,zK h3,zK h4,h5⟩
  ·split at h<;>first|exact h.1.elim|skip
   rename_i hb
   simp only[Bool.and_eq_true,beq_iff_eq] at hb
   obtain⟨⟨⟨h1,h2⟩,h3⟩,h4⟩:=hb
   exact⟨h1,h.1,h2,EZ h3,EZ h4,a1j h.2⟩
  ·split at h<;>first|exact h.1.elim|skip
   rename_i hb
   simp only[Bool.and_eq_true,beq_iff_eq] at hb
   obtain⟨⟨⟨⟨h1,h2⟩,h3⟩,h4⟩,h5⟩:=hb
   exact⟨⟨h1,h.1,h.2.1,h2,EZ h3,EZ h4⟩,a1j h.2.2,h5⟩
  ·exact h.1
def b2t:List Part->List Part->List Prop
 | [],[]=>[]
 | p::ps,q::qs=>eqC p.t q.t p.x q.x++b2t ps qs
 | _,_=>[False]
theorem a4d:∀ {ps qs:List Part},eU (b2t ps qs)->leP ps qs
 | [],[],_=>trivial
 | p::ps,q::qs,h=>⟨yI (bK.1 h).1,a4d (bK.1 h).2⟩
 | [],_::_,h=>h.1.elim
 | _::_,[],h=>h.1.elim
def b2s {t t':Ty} (ids oV:Option (List Nat)) (xss:List (List t.den)) (yss:List (List t'.den)):List Prop:=match ids,oV with
 | some l,none=>l.Nodup::eqC (.list (.list t)) (.list (.list t')) (l.map fun i=>xss.getD i []) yss
 | none,none=>eqC (.list (.list t)) (.list (.list t')) xss yss
 | some l,some l'=>(l=l')::eqC (.list (.list t)) (.list (.list t')) xss yss
 | none,some _=>[False]
theorem b0l {t t':Ty} {ids oV:Option (List Nat)} {xss:List (List t.den)} {yss:List (List t'.den)} (h:eU (b2s ids oV xss yss)):leM ids oV xss yss:=by
 cases ids<;>cases oV<;>simp only[b2s] at h
 ·exact⟨rfl,yI h⟩
 ·exact h.1.elim
 ·exact⟨h.1,yI h.2⟩
 ·exact⟨by rw[h.1],yI h.2⟩
def b2u (R R':Rho):Res->Res->List Prop
 | _,.none=>[]
 | .box ps,.box qs=>b2t ps qs
 | .row e t xs _,.row e' t' ys v=>if e=e'/\v=0 then eqC (.list t) (.list t') xs ys else [False]
 | .fro t xs _,.fro t' ys v=>if v=0 then eqC (.list t) (.list t') xs ys else [False]
 | .mat e e2 t ids xss _,.mat e' e2' t' oV yss v=>if e=e'/\e2=e2'/\v=0 then b2s ids oV xss yss else [False]
 | .kT k,.kT k'=>if k'.one then a8h R R' k k' else [False]
 | .kT _,.gone=>[]
 | .gone,.gone=>[]
 | x,y=>[leR R R' x y]
theorem b0m {R R':Rho} {x y:Res} (h:eU (b2u R R' x y)):leR R R' x y:=by
 unfold b2u at h
 split at h
 ·cases x<;>trivial
 ·exact a4d h
 ·split at h
  ·rename_i hh;exact⟨hh.1,hh.2,yI h⟩
  ·exact h.1.elim
 ·split at h
  ·rename_i hh;exact⟨hh,yI h⟩
  ·exact h.1.elim
 ·split at h
  ·rename_i hh;exact⟨hh.1,hh.2.1,hh.2.2,b0l h⟩
  ·exact h.1.elim
 ·split at h
  ·rename_i hh;exact⟨hh,XH h⟩
  ·exact h.1.elim
 ·trivial
 ·trivial
 ·exact h.1
theorem a3v {α:Type} {f g:α->List Prop} (h:∀ a,eU (f a)->eU (g a)):∀ {l:List α},eU (l.flatMap f)->eU (l.flatMap g)
 | [],_=>trivial
 | a::l,h1=>by
  rw[List.flatMap_cons] at h1 ⊢
  exact bK.2 ⟨h a (bK.1 h1).1,a3v h (bK.1 h1).2⟩
theorem MO {α:Type} {f:α->List Prop} {g:α->Prop} (h:∀ a,eU (f a)->g a):∀ {l:List α},eU (l.flatMap f)->eU (l.map g)
 | [],_=>trivial
 | a::l,h1=>by
  rw[List.flatMap_cons] at h1
  exact⟨h a (bK.1 h1).1,MO h (bK.1 h1).2⟩
def b0k (G:Gam) (R:Rho) (S:Gam) (Z:Rho) (l:List Nat):List Prop :=
 S.flatMap (fun p=>a8h R Z (dJ G p.1) p.2)++(cut (S.map (·.1)++l) G).flatMap (fun p=>if (dJ G p.1).res.isEmpty then [] else a8h R Z (dJ G p.1) (jH (dJ G p.1)))++Z.flatMap (fun p=>b2u R Z (aV R p.1) p.2)
theorem XI {G:Gam} {R:Rho} {S:Gam} {Z:Rho} {l:List Nat} (h:eU (b0k G R S Z l)):eU (leL G R S Z l):=by
 obtain⟨h12,h3⟩:=bK.1 h
 obtain⟨h1,h2⟩:=bK.1 h12
 refine bK.2 ⟨bK.2 ⟨MO (fun p hp=>XH hp) h1,a3v (fun p hp=>?_) h2⟩,MO (fun p hp=>b0m hp) h3⟩
 by_cases e:(dJ G p.1).res.isEmpty=true
 ·rw[if_pos e];trivial
 ·rw[if_neg e] at hp ⊢
  exact⟨XH hp,trivial⟩
def b5L (R:Rho):K->Bool
 | .own r v=>!FU v (aV R r)
 | .cell r v _=>!FU v (aV R r)
 | .mrow r v _=>!KF v (aV R r)
 | .mpos r v _ _=>!KF v (aV R r)
 | _=>false
def OB (G:Gam) (R:Rho) (zs:List Nat):List Nat:=(G.filter fun p=>(dJ G p.1).res.any (fun r=>!zs.contains r) || b5L R (dJ G p.1)).map (·.1)
def b1d (G G':Gam) (l:List Nat):Bool:=(cut l G).all fun p=>IW (jH (dJ G p.1)) || !IW (jH (dJ G' p.1))
def a7I (G G':Gam) (l:List Nat):List Prop:=if b1d G G' l then [] else [False]
def a3f (F:(Exit->Gam->Rho->Prop)->Gam->Rho->Prop) (L l k:List Nat) (Q:Exit->Gam->Rho->Prop):Nat->Gam->Rho->Prop
 | 0,_,_=>False
 | n+1,G,R=>F (a4I (fun G R=>eU (b0k G R (VN G l) (a9j R k) (less L l++OB G R k))/\b5M (VN G l) L=true/\a3f F L l k Q n (VN G l++pG (cut ((VN G l).map (·.1)++(less L l++OB G R k)) G)) (a9j R k)) Q) G R
def ifB (b:Bool) (p q:Prop):Prop:=match b with
 | true=>p
 | false=>q
theorem fA {b:Bool} {p q:Prop}:ifB b p q↔(b=true->p)/\(b=false->q):=by cases b<;>simp[ifB]
def vwp (B:Book):Code->List Ann->(Exit->Gam->Rho->Prop)->Gam->Rho->Prop
 | .skip,_,Q,G,R=>Q .normal G R
 | .label _,_,Q,G,R=>Q .normal G R
 | .exit i,_,Q,G,R=>Q (.exit i) G R
 | .ret,_,Q,G,R=>Q .ret G R
 | .region _ ops draw,_,Q,G,R=>match rO B ops draw G R with
  | some ([],G',R')=>Q .normal G' R'
  | some (vc,G',R')=>eU vc/\Q .normal G' R'
  | none=>False
 | .seq a b,A,Q,G,R=>vwp B a (A.take (nl a)) (a4I (vwp B b (A.drop (nl a)) Q) Q) G R
 | .cond c t e,A,Q,G,R=>match opK (dJ G) c with
  | .val .bool b=>ifB b (vwp B t (A.take (nl t)) Q G R) (vwp B e (A.drop (nl t)) Q G R)
  | _=>False
 | .block i c,A,Q,G,R=>vwp B c A (a6R i Q) G R
 | .loop c,A,Q,G,R=>match A with
  | .inv ι S Z m i0 sub::_=>eU (b0k G R (S i0) (Z i0) (asg c++OB G R ((Z i0).map (·.1)))) /\
   ∀ i,b5M (S i) (asg c)=true/\vwp B c (sub i) (a4I (fun G' R'=>∃ i',m i'<m i/\eU (a7I G G' ((S i').map (·.1)++(asg c++OB G R ((Z i0).map (·.1))))++b0k G' R' (S i') (Z i') (asg c++OB G R ((Z i0).map (·.1))))) Q) (S i++pG (cut ((S i).map (·.1)++(asg c++OB G R ((Z i0).map (·.1)))) G)) (Z i)
  | .rounds n l sub::_=>YM (vwp B c sub) (less (asg c) l) Q n G R
  | .turns n l k sub::_=>a3f (vwp B c sub) (asg c) l k Q n G R
  | []=>False
 | _,_,_,_,_=>False
section
variable {B:Book} {W:World} {base:Fix}
def Fr (l:List Nat) (G G':Gam):Prop:=∀ s,s ∉ l->jH (dJ G' s)=.any\/jH (dJ G' s)=jH (dJ G s)
theorem Fr.trans {l m:List Nat} {G G' G'':Gam} (h:Fr l G G') (k:Fr m G' G''):Fr (l++m) G G'':=fun s hs=>by
 simp only[List.mem_append,not_or] at hs
 rcases k s hs.2 with e|e
 ·exact .inl e
 ·rcases h s hs.1 with e2|e2
  ·exact .inl (e.trans e2)
  ·exact .inr (e.trans e2)
theorem Fr.refl (l:List Nat) (G:Gam):Fr l G G:=fun _ _=>.inr rfl
theorem Fr.more {l m:List Nat} {G G':Gam} (h:Fr l G G') (hl:∀ s ∈ l,s ∈ m):Fr m G G':=fun s hs=>h s (fun h'=>hs (hl s h'))
theorem Fr.two {l:List Nat} {G G' G'':Gam} (h:Fr l G G') (k:Fr l G' G''):Fr l G G'':=(h.trans k).more (fun s hs=>(List.mem_append.1 hs).elim id id)
theorem VD {ops:Array Oper}:∀ {l:List Oper} {G:Gam} {R:Rho} {vc:List Prop} {G':Gam} {R':Rho},zN B ops l G R=some (vc,G',R')->Fr (l.filterMap (·.dst)) G G'
 | [],G,R,vc,G',R',h=>by
  simp only[zN,Option.some.injEq,Prod.mk.injEq] at h
  obtain⟨_,rfl,_⟩:=h
  exact Fr.refl _ _
 | o::rest,G,R,vc,G',R',h=>by
  simp only[zN] at h
  split at h<;>first|(cases h;done)|skip
  rename_i vc1 k l1 h1
  split at h<;>first|(cases h;done)|skip
  rename_i vc2 G2 R2 h2
  simp only[Option.some.injEq,Prod.mk.injEq] at h
  obtain⟨_,rfl,_⟩:=h
  intro s hs
  have ih:=VD h2
  cases hd:o.dst with
  | none =>
   rw[List.filterMap_cons_none hd] at hs
   exact(ih s hs).imp id (fun h=>h.trans (by rw[vH,hd];rfl))
  | some d =>
   rw[List.filterMap_cons_some hd] at hs
   simp only[List.mem_cons,not_or] at hs
   exact(ih s hs.2).imp id (fun h=>h.trans (by rw[vH,hd];exact congrArg jH (aU _ _ hs.1)))
theorem VG {ops:Array Oper}:∀ {l:List Oper} {G:Gam} {R:Rho} {vc:List Prop} {ss:List Sim} {G':Gam} {R':Rho},wV B ops l G R=some (vc,ss,G',R')->Fr (l.filterMap (·.dst)) G G'
 | [],G,R,vc,ss,G',R',h=>by
  simp only[wV,Option.some.injEq,Prod.mk.injEq] at h
  obtain⟨_,_,rfl,_⟩:=h
  exact Fr.refl _ _
 | o::rest,G,R,vc,ss,G',R',h=>by
  simp only[wV] at h
  split at h<;>first|(cases h;done)|skip
  rename_i vc1 k l1 h1
  split at h<;>first|(cases h;done)|skip
  rename_i vc2 ss2 G2 R2 h2
  simp only[Option.some.injEq,Prod.mk.injEq] at h
  obtain⟨_,_,rfl,_⟩:=h
  intro s hs
  have ih:=VG h2
  cases hd:o.dst with
  | none =>
   rw[List.filterMap_cons_none hd] at hs
   exact(ih s hs).imp id (fun h=>h.trans (by rw[vH,hd];rfl))
  | some d =>
   rw[List.filterMap_cons_some hd] at hs
   simp only[List.mem_cons,not_or] at hs
   exact(ih s hs.2).imp id (fun h=>h.trans (by rw[vH,hd];exact congrArg jH (aU _ _ hs.1)))
theorem YC {id:Nat} {ops:Array Oper} {draw:Bool} {G:Gam} {R:Rho} {vc:List Prop} {G':Gam} {R':Rho} (h:rO B ops draw G R=some (vc,G',R')):Fr (asg (.region id ops draw)) G G':=by
 unfold rO at h
 cases draw with
 | true =>
  simp only[if_true] at h
  split at h<;>first|(cases h;done)|skip
  rename_i vc1 ss G1 R1 b2h
  split at h<;>first|(cases h;done)|skip
  simp only[Option.some.injEq,Prod.mk.injEq] at h
  obtain⟨_,rfl,_⟩:=h
  exact VG b2h
 | false =>
  simp only[Bool.false_eq_true,if_false] at h
  exact VD h
def PostF (B:Book) (W:World) (base:Fix) (Q:Exit->Gam->Rho->Prop) (l:List Nat) (G:Gam) (e:Exit) (a:Act) (w:World):Prop:=∃ G' R,Q e G' R/\Fr l G G'/\St B W base G' R a w
theorem uD {l:List Nat} {s:Nat} (h:s ∈ l):∀ (G:Gam),dJ (cut l G) s=.any
 | []=>rfl
 | (q,k)::G=>by
  unfold cut
  rw[List.filter_cons]
  have ih:=uD h G
  unfold cut at ih
  split
  ·rename_i hq
   simp only[dJ]
   rw[if_neg]
   ·exact ih
   ·rintro rfl
    have:l.contains s=true:=by simpa using h
    rw[this] at hq;cases hq
  ·exact ih
theorem lI {l:List Nat} {s:Nat} (h:s ∉ l):∀ (G:Gam),dJ (cut l G) s=dJ G s
 | []=>rfl
 | (q,k)::G=>by
  unfold cut
  rw[List.filter_cons]
  have ih:=lI h G
  unfold cut at ih
  split
  ·simp only[dJ]
   split
   ·rfl
   ·exact ih
  ·rename_i hq
   simp only[dJ]
   rw[if_neg]
   ·exact ih
   ·rintro rfl
    have:l.contains s=true:=by simpa using hq
    exact h (by simpa using this)
theorem a3T {S:Gam} {L l:List Nat} {G:Gam} (h:b5M S L=true):Fr L G (S++pG (cut (S.map (·.1)++l) G)):=fun s hs=>by
 rcases OD S (pG (cut (S.map (·.1)++l) G)) s with⟨p,k1,rfl,k3⟩|⟨k1,k2⟩
 ·left
  obtain⟨p',j1,j2,j3⟩:=wI ⟨p,k1,rfl⟩
  have:=List.all_eq_true.1 h p' j1
  rw[j2] at this
  simp only[Bool.or_eq_true,List.contains_eq_mem,decide_eq_true_eq,IX] at this
  rw[k3,j3,this.resolve_left hs]
  rfl
 ·rw[k2,sD,SV]
  by_cases hm:s ∈ S.map (·.1)++l
  ·left;rw[uD hm];rfl
  ·right;rw[lI hm]
theorem a5r {S:Gam} {L l:List Nat} {G G':Gam} (h:Fr L G G') (hL:∀ s ∈ L,s ∈ S.map (·.1)++l) (hb:eU (a7I G G' (S.map (·.1)++l))) (s:Nat):dJ (S++pG (cut (S.map (·.1)++l) G)) s=dJ (S++pG (cut (S.map (·.1)++l) G')) s:=by
 have hb:b1d G G' (S.map (·.1)++l)=true:=by
  unfold a7I at hb
  split at hb
  ·assumption
  ·exact hb.1.elim
 have e:dJ (pG (cut (S.map (·.1)++l) G)) s=dJ (pG (cut (S.map (·.1)++l) G')) s:=by
  rw[sD,sD]
  by_cases hm:s ∈ S.map (·.1)++l
  ·rw[uD hm,uD hm]
  ·rw[lI hm,lI hm]
   rcases h s (fun h'=>hm (hL s h')) with e|e
   ·rcases OE (cut (S.map (·.1)++l) G) s with e2|⟨p,hp,rfl⟩
    ·rw[lI hm] at e2
     rw[e,e2];rfl
    ·have:=List.all_eq_true.1 hb p hp
     rw[e] at this
     simp only[IW,Bool.not_true,Bool.or_false,IX] at this
     rw[e,IX.1 this]
   ·exact e.symm
 have:∀ (S:Gam) (X Y:Gam),dJ X s=dJ Y s->dJ (S++X) s=dJ (S++Y) s:=by
  intro S
  induction S with
  | nil=>intro X Y h;exact h
  | cons p S ih =>
   intro X Y h
   simp only[List.cons_append,dJ]
   split
   ·rfl
   ·exact ih X Y h
 exact this S _ _ e
theorem b5R (hB:B.Ok) (hm:B.P.follows .mixedOrders=true):∀ (c:Code) {A:List Ann} {Q:Exit->Gam->Rho->Prop} {G:Gam} {R:Rho} {a:Act} {w:World},vwp B c A Q G R->St B W base G R a w->c.wp B.P (PostF B W base Q (asg c) G) a w:=by
 intro c
 induction c with
 | skip=>intro A Q G R a w h hs;exact wp_skip ⟨G,R,h,Fr.refl _ _,hs⟩
 | label l=>intro A Q G R a w h hs;exact wp_label ⟨G,R,h,Fr.refl _ _,hs⟩
 | exit i=>intro A Q G R a w h hs;exact wp_exit ⟨G,R,h,Fr.refl _ _,hs⟩
 | ret=>intro A Q G R a w h hs;exact wp_ret ⟨G,R,h,Fr.refl _ _,hs⟩
 | region id ops draw =>
  intro A Q G R a w h hs
  have key:∀ (vc:List Prop) (G':Gam) (R':Rho),rO B ops draw G R=some (vc,G',R')->eU vc->Q .normal G' R'->(Code.region id ops draw).wp B.P (PostF B W base Q (asg (.region id ops draw)) G) a w:=fun vc G' R' hr hv hq =>
   wp_mono (YD (id:=id) hB hm (Q:=fun e G2 R2=>e=.normal/\G2=G'/\R2=R') hr hv ⟨rfl,rfl,rfl⟩ hs) (fun e a' w' hp=>by
    obtain⟨G2,R2,⟨rfl,rfl,rfl⟩,k2⟩:=hp
    exact⟨_,_,hq,YC (id:=id) hr,k2⟩)
  simp only[vwp] at h
  split at h
  ·rename_i G' R' hr;exact key [] G' R' hr trivial h
  ·rename_i vc G' R' _ hr;exact key vc G' R' hr h.1 h.2
  ·exact h.elim
 | seq x y ihx ihy =>
  intro A Q G R a w h hs
  refine wp_seq (wp_mono (ihx h hs) (fun e a' w' hq=>?_))
  obtain⟨G',R',k1,k2,k3⟩:=hq
  have hfr:Fr (asg (.seq x y)) G G':=fun s hs'=>k2 s (fun h'=>hs' (List.mem_append_left _ h'))
  cases e with
  | normal =>
   refine wp_mono (ihy k1 k3) (fun e2 a2 w2 hq2=>?_)
   obtain⟨G2,R2,j1,j2,j3⟩:=hq2
   exact⟨G2,R2,j1,k2.trans j2,j3⟩
  | _=>exact⟨G',R',k1,hfr,k3⟩
 | cond c t e iht ihe =>
  intro A Q G R a w h hs
  simp only[vwp] at h
  split at h<;>first|exact h.elim|skip
  rename_i b hk
  have h:=fA.1 h
  have hs2:=hs
  obtain⟨E,h0,h1,h2⟩:=hs2
  have hv:=(PY h2).2 c
  rw[hk] at hv
  refine wp_cond_split (vT hv) (fun hb=>wp_mono (iht (h.1 hb) hs) (fun e a' w' hq=>?_)) (fun hb=>wp_mono (ihe (h.2 hb) hs) (fun e a' w' hq=>?_))
  all_goals
   obtain⟨G',R',k1,k2,k3⟩:=hq
  ·exact⟨G',R',k1,fun s hs'=>k2 s (fun h'=>hs' (List.mem_append_left _ h')),k3⟩
  ·exact⟨G',R',k1,fun s hs'=>k2 s (fun h'=>hs' (List.mem_append_right _ h')),k3⟩
 | block id c ih =>
  intro A Q G R a w h hs
  refine wp_block (wp_mono (ih h hs) (fun e a' w' hq=>?_))
  obtain⟨G',R',k1,k2,k3⟩:=hq
  cases e with
  | exit i =>
   simp only[a6R] at k1
   simp only[Exit.inBlock]
   split
   ·rename_i e;rw[if_pos e] at k1;exact⟨G',R',k1,k2,k3⟩
   ·rename_i e;rw[if_neg e] at k1;exact⟨G',R',k1,k2,k3⟩
  | _=>exact⟨G',R',k1,k2,k3⟩
 | loop c ih =>
  intro A Q G R a w h hs
  simp only[vwp] at h
  split at h
  ·rename_i ι S Z m i0 sub rest
   obtain⟨h1,h2⟩:=h
   refine wp_loop_rounds (m i0+1) (UY (B:=B) (fun i a w=>St B W base (S i++pG (cut ((S i).map (·.1)++(asg c++OB G R ((Z i0).map (·.1)))) G)) (Z i) a w) m (fun i a' w' hi=>?_) (m i0+1) i0 a w (by omega) (a2n hs (XI h1)))
   obtain⟨h3,h4⟩:=h2 i
   refine wp_mono (ih h4 hi) (fun e a2 w2 hq=>?_)
   obtain⟨G',R',k1,k2,k3⟩:=hq
   have hfr:Fr (asg c) G G':=(a3T h3).two k2
   cases e with
   | normal =>
    obtain⟨i',k4,k5⟩:=k1
    obtain⟨k6,k7⟩:=bK.1 k5
    exact⟨i',k4,(a2n k3 (XI k7)).congr (fun s=>a5r hfr (fun s hs'=>List.mem_append_right _ (List.mem_append_left _ hs')) k6 s)⟩
   | _=>exact⟨G',R',k1,hfr,k3⟩
  ·rename_i n l sub rest
   refine wp_loop_rounds n ?_
   have key:∀ n G1 R a w,Fr (asg c) G G1->YM (vwp B c sub) (less (asg c) l) Q n G1 R->St B W base G1 R a w->Code.rounds B.P c (PostF B W base Q (asg (.loop c)) G) n a w:=by
    intro n
    induction n with
    | zero=>intro G1 R a w _ h _;exact h.elim
    | succ n ihn =>
     intro G1 R a w hf h hs
     rw[rounds_succ]
     refine wp_mono (ih h hs) (fun e a2 w2 hq=>?_)
     obtain⟨G',R',k1,k2,k3⟩:=hq
     have hfr:Fr (asg c) G G':=hf.two k2
     cases e with
     | normal =>
      refine ihn _ _ _ _ (fun s hs'=>?_) k1 (k3.cut (l:=less (asg c) l))
      have hns:s ∉ less (asg c) l:=fun h'=>hs' (List.mem_filter.1 h').1
      rw[lI hns]
      exact hfr s hs'
     | _=>exact⟨G',R',k1,hfr,k3⟩
   exact key n G R a w (Fr.refl _ _) h hs
  ·rename_i n l k sub rest
   refine wp_loop_rounds n ?_
   have key:∀ n G1 R a w,Fr (asg c) G G1->a3f (vwp B c sub) (asg c) l k Q n G1 R->St B W base G1 R a w->Code.rounds B.P c (PostF B W base Q (asg (.loop c)) G) n a w:=by
    intro n
    induction n with
    | zero=>intro G1 R a w _ h _;exact h.elim
    | succ n ihn =>
     intro G1 R a w hf h hs
     rw[rounds_succ]
     refine wp_mono (ih h hs) (fun e a2 w2 hq=>?_)
     obtain⟨G',R',k1,k2,k3⟩:=hq
     have hfr:Fr (asg c) G G':=hf.two k2
     cases e with
     | normal =>
      obtain⟨k4,k5,k6⟩:=k1
      refine ihn _ _ _ _ (fun s hs'=>?_) k6 (a2n k3 (XI k4))
      exact(hfr.two (a3T k5)) s hs'
     | _=>exact⟨G',R',k1,hfr,k3⟩
   exact key n G R a w (Fr.refl _ _) h hs
  ·exact h.elim
 | scope c ih=>intro A Q G R a w h hs;simp only[vwp] at h
 | goto l=>intro A Q G R a w h hs;simp only[vwp] at h
 | rangeFunc f ps x y _ _=>intro A Q G R a w h hs;simp only[vwp] at h
 | refuse s=>intro A Q G R a w h hs;simp only[vwp] at h
end
attribute [irreducible] vwp
end Go.Proofs.YtidfgdchcpmnfaaGreat
