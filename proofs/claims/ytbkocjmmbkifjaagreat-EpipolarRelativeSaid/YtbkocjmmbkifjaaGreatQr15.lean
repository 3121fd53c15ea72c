/-
  Lemmas for the theorem vrelative28_holds, part 15 of 35.
-/
import Derived.LoopN
import Derived.Test.YtbkocjmmbkifjaaGreatQr14
namespace Go.Proofs.YtbkocjmmbkifjaaGreat
open Go Go.RowKit
theorem Cj:type_of% @wp_mono:=@wp_mono
section
set_option linter.unusedSimpArgs false
set_option linter.unusedVariables false
set_option maxRecDepth 20000
def jJ (B:Book) (ops:Array Oper) (draw:Bool) (G:Gam) (R:Rho):Option (List Cd × Gam × Rho) :=
 if draw then (match zA B ops ops.toList G R with
  | some (vc,ss,G',R')=>if uI .any ops&&a4L ops (Region.before ops) ss&&b2C ops (Region.before ops) then some (vc,G',R') else none
  | none=>none)
 else yY B ops ops.toList G R
def asg:Code->List Nat
 | .region _ ops _=>ops.toList.filterMap (·.dst)
 | .seq a b=>asg a++asg b
 | .cond _ a b=>asg a++asg b
 | .block _ c=>asg c
 | .loop c=>asg c
 | .scope c=>asg c
 | .rangeFunc _ ps a b=>ps.toList++asg a++asg b
 | _=>[]
def cut (l:List Nat) (G:Gam):Gam:=G.filter fun p=>!l.contains p.1
def Res.isNil:Res->Prop
 | .row _ _ xs 0=>xs=[]
 | .mat _ _ _ Option.none xss 0=>xss=[]
 | _=>False
def Res.isNil':Res->Prop
 | .none=>True
 | _=>False
def Res.KN:Res->Bool
 | .none=>true
 | .gone=>true
 | _=>false
def RP:Res->Res->Prop
 | .mat _ _ _ ids xss _,.mat _ _ _ qV yss _=>ids=qV/\xss.length=yss.length
 | _,_=>False
def UE (R R':Rho):List K0->List K0->Prop
 | [],[]=>True
 | .val t x::ks,.val t' y::ks'=>gK t t' x=some y/\UE R R' ks ks'
 | .ptr r o::ks,.ptr r' o'::ks'=>(r=r'/\o=o'/\(aU R r).oV/\(aU R' r).oV)/\UE R R' ks ks'
 | .mW r::ks,.mW r'::ks'=>(r=r'/\(aU R' r).FQ/\((aU R' r).nK->(aU R r).nK))/\UE R R' ks ks'
 | _,_=>False
def leK (R R':Rho):K->K->Prop
 | _,.any=>True
 | .val t x,.val t' y=>gK t t' x=some y
 | .nil,.nil=>True
 | .nil,.own r 0=>(aU R r).isNil'/\(aU R' r).isNil
 | .nil,.val (.list t) ys=>(ys:List t.den)=[]
 | .ptr r o,.ptr r' o'=>r=r'/\o=o'/\(aU R r).oV/\(aU R' r).oV
 | .own r v,.own r' v'=>r=r'/\v'=0/\Res.isRow v (aU R r)/\Res.isRow 0 (aU R' r)
 | .cell r v i,.cell r' v' i'=>r=r'/\i=i'/\v'=0/\Res.isRow v (aU R r)/\Res.isRow 0 (aU R' r)/\(aU R r).esz=(aU R' r).esz
 | .mrow r v i,.mrow r' v' i'=>r=r'/\i=i'/\v'=0/\Res.nT v (aU R r)/\Res.nT 0 (aU R' r)/\RP (aU R r) (aU R' r)
 | .mpos r v i j,.mpos r' v' i' j'=>(r=r'/\i=i'/\j=j'/\v'=0/\Res.nT v (aU R r)/\Res.nT 0 (aU R' r))/\RP (aU R r) (aU R' r)/\(aU R r).msz=(aU R' r).msz
 | .mW r,.mW r'=>r=r'/\(aU R' r).FQ/\((aU R' r).nK->(aU R r).nK)
 | .fn g ks,.fn g' ks'=>g=g'/\UE R R' ks ks'
 | _,_=>False
def leP:List Part->List Part->Prop
 | [],[]=>True
 | p::ps,q::qs=>gK p.t q.t p.x=some q.x/\leP ps qs
 | _,_=>False
def leM {t t':Ty} (ids qV:Option (List Nat)) (xss:List (List t.den)) (yss:List (List t'.den)):Prop:=match ids,qV with
 | some l,none=>l.Nodup/\gK (.list (.list t)) (.list (.list t')) (l.map fun i=>xss.getD i [])=some yss
 | _,_=>ids=qV/\gK (.list (.list t)) (.list (.list t')) xss=some yss
def leR (R R':Rho):Res->Res->Prop
 | _,.none=>True
 | .box ps,.box qs=>leP ps qs
 | .row e t xs _,.row e' t' ys v=>e=e'/\v=0/\gK (.list t) (.list t') xs=some ys
 | .mat e _ t none xss _,.row e' t' ys v=>e=e'/\v=0/\gK (.list (.list t)) (.list t') xss=some ys
 | .fro t xs _,.fro t' ys v=>v=0/\gK (.list t) (.list t') xs=some ys
 | .none,.row _ t ys v=>(ys:List t.den)=[]/\v=0/\t.still=true
 | .mat e e2 t ids xss _,.mat e' e2' t' qV yss v=>e=e'/\e2=e2'/\v=0/\leM ids qV xss yss
 | .none,.mat _ _ t ids yss v=>ids=none/\(yss:List (List t.den))=[]/\v=0/\t.still=true
 | .lG k,.lG k'=>k'.one=true/\leK R R' k k'
 | .lG _,.gone=>True
 | .gone,.gone=>True
 | _,_=>False
def jC:K->K
 | .own r _=>.own r 0
 | .cell r _ i=>.cell r 0 i
 | .mrow r _ i=>.mrow r 0 i
 | .mpos r _ i j=>.mpos r 0 i j
 | .when b k=>if k.res.isEmpty then .when b k else .any
 | .mix l=>if (K.mix l).res.isEmpty then .mix l else .any
 | .sng _ _=>.any
 | .pls l=>if (K.pls l).res.isEmpty then .pls l else .any
 | .pcl l i=>if (K.pcl l i).res.isEmpty then .pcl l i else .any
 | k=>k
theorem a4W {k:K} (h:k.res=[]):jC k=k:=by
 cases k<;>first|rfl|(simp[K.res] at h;done)|skip
 ·show (if _ then _ else _)=_;rw[dn (by simpa [K.res] using h)]
 ·show (if _ then _ else _)=_;rw[dn (by rw[h];rfl)]
 ·show (if _ then _ else _)=_;rw[dn (by rw[h];rfl)]
 ·show (if _ then _ else _)=_;rw[dn (by rw[h];rfl)]
theorem XA (k:K):jC (jC k)=jC k:=by
 cases k<;>first|rfl|skip
 ·rename_i b k;show jC (if k.res.isEmpty then .when b k else .any)=if k.res.isEmpty then .when b k else .any
  split
  ·rename_i h;show (if _ then _ else _)=_;rw[dn h]
  ·rfl
 ·rename_i l;show jC (if (K.mix l).res.isEmpty then .mix l else .any)=if (K.mix l).res.isEmpty then .mix l else .any
  split
  ·rename_i h;show (if _ then _ else _)=_;rw[dn h]
  ·rfl
 ·rename_i l;show jC (if (K.pls l).res.isEmpty then .pls l else .any)=if (K.pls l).res.isEmpty then .pls l else .any
  split
  ·rename_i h;show (if _ then _ else _)=_;rw[dn h]
  ·rfl
 ·rename_i l i;show jC (if (K.pcl l i).res.isEmpty then .pcl l i else .any)=if (K.pcl l i).res.isEmpty then .pcl l i else .any
  split
  ·rename_i h;show (if _ then _ else _)=_;rw[dn h]
  ·rfl
def rE (G:Gam):Gam:=G.map fun p=>(p.1,jC p.2)
theorem vH:∀ (G:Gam) (s:Nat),bF (rE G) s=jC (bF G s)
 | [],s=>rfl
 | (q,k)::G,s=>by
  show (if s=q then jC k else bF (rE G) s)=jC (if s=q then k else bF G s);split
  ·rfl
  ·exact vH G s
def St (B:Book) (W:World) (base:Fix) (G:Gam) (R:Rho) (a:Act) (w:World):Prop:=∃ E:Env,E.fix=base/\Mem E (aU R) W w/\Fits E (aU R) w B a (bF G)
section
variable {B:Book} {W:World} {base:Fix}
theorem AV {l:List Nat}:∀ (G:Gam) (s:Nat),bF (cut l G) s=bF G s\/bF (cut l G) s=.any
 | [],s=>.inl rfl
 | (q,k)::G,s=>by
  unfold cut;rw[List.filter_cons];split
  ·simp only[bF];split
   ·exact .inl rfl
   ·exact AV G s
  ·rename_i hq;simp only[bF];split
   ·rename_i e;subst e;right;have hq:l.contains s=true:=by simpa using hq
    have:∀ (G:Gam),bF (G.filter fun p=>!l.contains p.1) s=.any:=by
     intro G
     induction G with
     | nil=>rfl
     | cons p G ih =>
      rw[List.filter_cons];split
      ·rename_i hp;simp only[bF];split
       ·rename_i e;rw[<-e,hq] at hp;cases hp
       ·exact ih
      ·exact ih
    exact this G
   ·exact AV G s
theorem St.cut {l:List Nat} {G:Gam} {R:Rho} {a:Act} {w:World} (h:St B W base G R a w):St B W base (cut l G) R a w:=by
 obtain⟨E,h0,h1,h2⟩:=h;refine⟨E,h0,h1,h2.size,h2.defers,fun s=>?_,fun s=>?_,h2.par⟩
 ·rcases AV (l:=l) G s with e|e
  ·rw[e];exact h2.wf s
  ·rw[e];trivial
 ·rcases AV (l:=l) G s with e|e
  ·rw[e];exact h2.holds s
  ·rw[e];trivial
theorem TQ:∀ (G:Gam) (s:Nat),bF G s=.any\/∃ p ∈ G,p.1=s
 | [],s=>.inl rfl
 | (q,k)::G,s=>by
  simp only[bF];split
  ·rename_i e;exact .inr ⟨_,je ..,e.symm⟩
  ·rcases TQ G s with h|⟨p,h1,h2⟩
   ·exact .inl h
   ·exact .inr ⟨p,jd _ h1,h2⟩
theorem a2H:∀ (R:Rho) (s:Nat),aU R s=.none\/∃ p ∈ R,p.1=s
 | [],s=>.inl rfl
 | (q,k)::R,s=>by
  simp only[aU];split
  ·rename_i e;exact .inr ⟨_,je ..,e.symm⟩
  ·rcases a2H R s with h|⟨p,h1,h2⟩
   ·exact .inl h
   ·exact .inr ⟨p,jd _ h1,h2⟩
theorem UF {F:Nat->Prop} {w:World}:∀ {ps qs:List Part} {cs:List Value},leP ps qs->chunks (iP F w) cs ps->chunks (iP F w) cs qs
 | [],[],_,_,h=>h
 | p::ps,q::qs,cs,⟨h1,h2⟩,⟨c1,c2,k1,k2,k3⟩=>by refine⟨c1,c2,k1,?_,UF h2 k3⟩;obtain⟨pt,px⟩:=p;obtain⟨qt,qx⟩:=q;obtain⟨e,h3⟩:=dO h1;simp only at e;subst e;have h3:px=qx:=h3;subst h3;exact k2
 | [],_::_,_,h,_=>h.elim
 | _::_,[],_,h,_=>h.elim
def TY (E:Env) (r:Nat):Option (List Nat)->Option (List Nat)->Nat->Value
 | some l,none,i=>match l[i]? with
  | some j=>E.inn r j
  | none=>undef
 | _,_,i=>E.inn r i
def wG (E:Env) (r:Nat):Res->Res->Nat->Value
 | .mat _ _ _ ids _ _,.mat _ _ _ qV _ _,i=>TY E r ids qV i
 | _,_,_=>undef
def iF (E:Env) (R R':Rho):Env:=⟨fun r=>if (aU R' r).KN then none else E.blk r,fun r=>if (aU R r).isNone then .slice none 0 0 else E.sl r,E.base,fun r=>wG E r (aU R r) (aU R' r),E.qF,E.par⟩
theorem a8E {E:Env} {r:Nat} {x y:Res} {i q:Nat} (h:bK (wG E r x y i)=some q):∃ j,bK (E.inn r j)=some q:=by
 unfold wG at h;split at h
 ·unfold TY at h;split at h
  ·split at h
   ·exact⟨_,h⟩
   ·cases h
  ·exact⟨_,h⟩
 ·cases h
theorem UG {E:Env} {R R':Rho} {r j q:Nat} (h:(iF E R R').has r j q):∃ j',E.has r j' q/\(j=0↔j'=0):=by
 cases j with
 | zero =>
  have h:(if (aU R' r).KN then none else E.blk r)=some q:=h;split at h
  ·cases h
  ·exact⟨0,h,Iff.rfl⟩
 | succ i =>
  obtain⟨j,h⟩:=a8E h;exact⟨j+1,h,by simp⟩
theorem b2g {t t':Ty} {ids qV:Option (List Nat)} {xss:List (List t.den)} {yss:List (List t'.den)} (h:leM ids qV xss yss) (hn:∀ l,ids=some l->qV≠none):ids=qV/\gK (.list (.list t)) (.list (.list t')) xss=some yss:=by
 unfold leM at h;split at h
 ·exact absurd rfl (hn _ rfl)
 ·exact h
theorem a8F {E:Env} {r:Nat} {R R':Rho} {x y:Res} {i i' q:Nat} (hE:∀ a c,bK (E.inn r a)=some q->bK (E.inn r c)=some q->a=c) (h:leR R R' x y) (e1:bK (wG E r x y i)=some q) (e2:bK (wG E r x y i')=some q):i=i':=by
 cases x<;>first|(cases y<;>cases e1;done)|skip
 cases y<;>first|(cases e1;done)|skip
 rename_i e0 e02 t0 a8A xss v0 el el2 t ids yss v;by_cases hn:∃ l,a8A=some l/\ids=none
 ·obtain⟨l,rfl,rfl⟩:=hn;have hnd:l.Nodup:=h.2.2.2.1;simp only[wG,TY] at e1 e2;split at e1<;>first|(cases e1;done)|skip
  rename_i a ha;split at e2<;>first|(cases e2;done)|skip
  rename_i c hc;have hac:=hE a c e1 e2;subst hac;obtain⟨i1,i2⟩:=jy.1 ha;obtain⟨i3,i4⟩:=jy.1 hc;rcases Nat.lt_trichotomy i i' with hl|hl|hl
  ·exact absurd (i2.trans i4.symm) (List.pairwise_iff_getElem.1 hnd i i' i1 i3 hl)
  ·exact hl
  ·exact absurd (i4.trans i2.symm) (List.pairwise_iff_getElem.1 hnd i' i i3 i1 hl)
 ·have hin:∀ i,wG E r (.mat e0 e02 t0 a8A xss v0) (.mat el el2 t ids yss v) i=E.inn r i:=fun i=>by
   cases a8A with
   | none=>rfl
   | some l=>cases ids with
    | none=>exact absurd ⟨l,rfl,rfl⟩ hn
    | some l'=>rfl
  rw[hin] at e1 e2;exact hE i i' e1 e2
theorem a4y {E:Env} {R R':Rho} {w:World} (hF:∀ b,fz w E b->fz w (iF E R R') b) {k k':K} {v:Value} (hl:leK R R' k k') (hw:k.wf (aU R)) (hk:k.holds E (aU R) w v):k'.wf (aU R')/\k'.holds (iF E R R') (aU R') w v:=by
 have hsl:∀ r,(aU R r).isNone=false->(iF E R R').sl r=E.sl r:=fun r hn=>by show (if (aU R r).isNone then _ else _)=_;rw[hn];rfl
 have hblk:∀ r,(aU R' r).KN=false->(iF E R R').blk r=E.blk r:=fun r hn=>by show (if (aU R' r).KN then none else E.blk r)=_;rw[hn];rfl
 have hrn:∀ v r,Res.isRow v (aU R r)->(aU R r).isNone=false:=fun v r h=>by cases e3:aU R r<;>rw[e3] at h<;>first|exact h.elim|rfl
 have b9W:∀ r,Res.isRow 0 (aU R' r)->Res.dW 0 (aU R' r):=fun r h=>by cases e3:aU R' r<;>rw[e3] at h<;>first|exact h.elim|exact ru _
 have b8m:∀ r,Res.nT 0 (aU R' r)->Res.dW 0 (aU R' r):=fun r h=>by cases e3:aU R' r<;>rw[e3] at h<;>first|exact h.elim|exact ru _
 have hcnt:∀ r,RP (aU R r) (aU R' r)->(aU R r).cnt=(aU R' r).cnt/\(iF E R R').inn r=E.inn r:=fun r h=>by
  have:(iF E R R').inn r=wG E r (aU R r) (aU R' r):=rfl;rw[this];cases e3:aU R r<;>rw[e3] at h<;>first|exact h.elim|skip
  cases e4:aU R' r<;>rw[e4] at h<;>first|exact h.elim|skip
  obtain⟨h1,h2⟩:=h;subst h1;refine⟨h2,?_⟩;funext i;rename_i ids _ _ _ _ _ _ _;cases ids<;>rfl
 cases k' with
 | any=>exact⟨trivial,trivial⟩
 | val t y =>
  cases k<;>first|exact hl.elim|skip
  ·obtain⟨rfl,rfl⟩:=dO hl;exact⟨trivial,fU hF (jK.refl _ _) hk⟩
  ·cases t<;>first|exact hl.elim|skip
   have hl:y=[]:=hl;subst hl;exact⟨trivial,[.slice none 0 0],hk,none,0,rfl,by simp,by omega,.inl rfl⟩
 | nil=>cases k<;>first|exact hl.elim|exact⟨trivial,hk⟩
 | ptr r o =>
  cases k<;>first|exact hl.elim|skip
  obtain⟨rfl,rfl,j1,j2⟩:=hl;obtain⟨b,n1,n2⟩:=hk;refine⟨j2,b,?_,n2⟩;rw[hblk _ (by cases e3:aU R' _<;>rw[e3] at j2<;>first|exact j2.elim|rfl)];exact n1
 | own r v =>
  cases v with
  | succ n =>
   cases k<;>first|exact hl.elim|skip
   obtain⟨_,j2,_⟩:=hl;cases j2
  | zero =>
   cases k<;>first|exact hl.elim|skip
   ·obtain⟨j1,j2⟩:=hl;refine⟨?_,fun _=>?_⟩
    ·show Res.dW 0 (aU R' r);cases e3:aU R' r<;>rw[e3] at j2<;>first|exact j2.elim|exact ru _
    ·have:(iF E R R').sl r=.slice none 0 0:=by show (if (aU R r).isNone then _ else _)=_;cases e3:aU R r<;>rw[e3] at j1<;>first|exact j1.elim|rfl
     rw[this];exact hk
   ·obtain⟨rfl,_,j1,j2⟩:=hl;exact⟨b9W _ j2,fun _=>by rw[hsl _ (hrn _ _ j1)];exact hk j1⟩
 | cell r v i =>
  cases k<;>first|exact hl.elim|skip
  obtain⟨rfl,rfl,rfl,j1,j2,j3⟩:=hl;refine⟨b9W _ j2,fun _=>?_⟩;rw[hsl _ (hrn _ _ j1),<-j3];exact hk j1
 | mrow r v i =>
  cases k<;>first|exact hl.elim|skip
  obtain⟨rfl,rfl,rfl,j1,j2,j3⟩:=hl;obtain⟨c1,c2⟩:=hcnt _ j3;refine⟨⟨b8m _ j2,fun _=>?_⟩,fun _=>?_⟩
  ·rw[<-c1];exact hw.2 j1
  ·rw[c2];exact hk j1
 | mpos r v i j =>
  cases k<;>first|exact hl.elim|skip
  obtain⟨⟨rfl,rfl,rfl,rfl,j1,j2⟩,j3,j4⟩:=hl;obtain⟨c1,c2⟩:=hcnt _ j3;refine⟨⟨b8m _ j2,fun _=>?_⟩,fun _=>?_⟩
  ·rw[<-c1];exact hw.2 j1
  ·rw[c2,<-j4];exact hk j1
 | mW r =>
  cases k<;>first|exact hl.elim|skip
  obtain⟨rfl,j1,j2⟩:=hl;refine⟨j1,fun hb=>?_⟩;rw[hblk _ (by cases e3:aU R' _<;>rw[e3] at hb<;>first|exact hb.elim|rfl)];exact hk (j2 hb)
 | when b k=>cases k<;>exact(by cases ‹K›<;>exact hl.elim)
 | tup ts x=>cases k<;>exact hl.elim
 | mix ks=>cases k<;>exact hl.elim
 | sng r v=>cases k<;>exact hl.elim
 | pls ks=>cases k<;>exact hl.elim
 | pcl ks i=>cases k<;>exact hl.elim
 | fn g ks' =>
  cases k<;>first|exact hl.elim|skip
  rename_i ks;obtain⟨rfl,hl⟩:=hl;obtain⟨vs,rfl,hk⟩:=hk;have:∀ (ks ks':List K0) (vs:List Value),UE R R' ks ks'->lT (fz w E) E (aU R) w ks vs->(∀ k ∈ ks',KE (aU R') k)/\lT (fz w (iF E R R')) (iF E R R') (aU R') w ks' vs:=by
   intro ks
   induction ks with
   | nil =>
    intro ks' vs hl hk;cases ks' with
    | nil=>exact⟨fun k h=>(by cases h),hk⟩
    | cons _ _=>exact hl.elim
   | cons k ks ih =>
    intro ks' vs hl ⟨v,vs',e1,e2,e3⟩;cases ks' with
    | nil=>cases k<;>exact hl.elim
    | cons k' ks' =>
     have key:UE R R' ks ks'->KE (aU R') k'->a6w (fz w (iF E R R')) (iF E R R') (aU R') w k' v->(∀ k ∈ k'::ks',KE (aU R') k)/\lT (fz w (iF E R R')) (iF E R R') (aU R') w (k'::ks') vs:=fun h1 h2 h3=>by
      obtain⟨i1,i2⟩:=ih ks' vs' h1 e3;refine⟨fun k hk=>?_,v,vs',e1,h3,i2⟩;rcases jh.1 hk with rfl|hk
      ·exact h2
      ·exact i1 k hk
     cases k<;>cases k'<;>first|exact hl.elim|skip
     ·obtain⟨h1,h2⟩:=hl;obtain⟨rfl,rfl⟩:=dO h1;exact key h2 trivial (fU hF (jK.refl _ _) e2)
     ·obtain⟨⟨rfl,rfl,j1,j2⟩,h2⟩:=hl;obtain⟨b,n1,n2⟩:=e2;exact key h2 j2 ⟨b,by rw[hblk _ (by cases e3:aU R' _<;>rw[e3] at j2<;>first|exact j2.elim|rfl)];exact n1,n2⟩
     ·obtain⟨⟨rfl,j1,j2⟩,h2⟩:=hl;exact key h2 j1 (fun hb=>by
       rw[hblk _ (by cases e3:aU R' _<;>rw[e3] at hb<;>first|exact hb.elim|rfl)];exact e2 (j2 hb))
  obtain⟨q1,q2⟩:=this ks ks' vs hl hk;exact⟨q1,vs,rfl,q2⟩
theorem b8y {G G':Gam} {R R':Rho} {a:Act} {w:World} (h:St B W base G R a w) (hk:∀ s,leK R R' (bF G s) (bF G' s)\/(bF G' s=bF G s/\(bF G s).res=[])) (hr:∀ r,leR R R' (aU R r) (aU R' r)):St B W base G' R' a w:=by
 obtain⟨E,h0,h1,h2⟩:=h;have hF:∀ q,fz w E q->fz w (iF E R R') q:=fun q hq=>sH hq.1.1 hq.1.2 (fun r j e=>by
  obtain⟨j',e',_⟩:=UG e;exact sW hq r j' e')
 have hs:=jK.refl (fz w E) w;have a2N:∀ (ks:List K0) (vs:List Value),(∀ k ∈ ks,BK k=[])->lT (fz w E) E (aU R) w ks vs->lT (fz w (iF E R R')) (iF E R R') (aU R') w ks vs:=by
  intro ks
  induction ks with
  | nil=>intro vs _ h;exact h
  | cons k ks ih =>
   intro vs hk ⟨v,vs',e1,e2,e3⟩;refine⟨v,vs',e1,?_,ih vs' (fun k hk'=>hk k (jd _ hk')) e3⟩;have h0:=hk k (je ..);cases k with
   | val t x=>exact fU hF hs e2
   | _=>simp[BK] at h0
 have hsl:∀ r,(aU R r).isNone=false->(iF E R R').sl r=E.sl r:=fun r hn=>by show (if (aU R r).isNone then _ else _)=_;rw[hn];rfl
 have hblk:∀ r,(aU R' r).KN=false->(iF E R R').blk r=E.blk r:=fun r hn=>by show (if (aU R' r).KN then none else E.blk r)=_;rw[hn];rfl
 have c6f:∀ r,(aU R' r).KN=true->(iF E R R').blk r=none:=fun r hn=>by show (if (aU R' r).KN then none else E.blk r)=_;rw[hn];rfl
 have AY:∀ r i,(iF E R R').inn r i=wG E r (aU R r) (aU R' r) i:=fun _ _=>rfl;have hnil:∀ r,nD E w r Res.none->(iF E R R').sl r=.slice none 0 0->(aU R' r).KN=false->(iF E R R').blk r=bK ((iF E R R').sl r):=fun r k2 hsl hn=>by rw[hblk r hn,hsl];exact k2
 have hres:∀ r,nD (iF E R R') w r (aU R' r):=fun r=>by
  have k2:=h1.res r;have k1:=hr r;cases e':aU R' r with
  | none=>exact c6f r (by rw[e'];rfl)
  | gone=>exact c6f r (by rw[e'];rfl)
  | lG k=>trivial
  | box qs =>
   rw[e'] at k1;cases e:aU R r<;>rw[e] at k1<;>first|exact k1.elim|skip
   rw[e] at k2;obtain⟨b,cs,el,j1,j3,j4⟩:=k2;exact⟨b,cs,el,(hblk r (by rw[e'];rfl)).trans j1,j3,UF k1 (aZ (fun c p=>iP.mono hF hs) _ _ j4)⟩
  | row el t ys v =>
   rw[e'] at k1;cases e:aU R r<;>rw[e] at k1<;>first|exact k1.elim|skip
   ·rw[e] at k2;obtain⟨j1,j2,j3⟩:=k1;have hsl:(iF E R R').sl r=.slice none 0 0:=by show (if (aU R r).isNone then _ else _)=_;rw[e];rfl
    refine⟨hnil r k2 hsl (by rw[e'];rfl),j3,[],?_,?_,?_⟩
    ·rw[hsl,j1];exact Bg w _ _ _
    ·rw[j1];exact rfl
    ·exact⟨by rw[hsl];exact fun g hg=>(by cases hg),by rw[j2];exact a3k _⟩
   ·rename_i el0 t0 xs v0;rw[e] at k2;obtain⟨j1,j2,j3⟩:=k1;subst j1;obtain⟨ee,j3⟩:=dO j3;simp only[Ty.list.injEq] at ee;subst ee;have j3:xs=ys:=j3;subst j3;obtain⟨n1,n2,cs,n3,n4,n5⟩:=k2;have hsl:=hsl r (by rw[e];rfl);exact⟨by rw[hblk r (by rw[e'];rfl),hsl];exact n1,n2,cs,by rw[hsl];exact n3,aZ (fun c y=>bY hF hs t0 c y) _ _ n4,by rw[hsl];exact n5.1,by rw[j2];exact a3k _⟩
   ·rename_i el0 el2 t0 ids xss v0;cases ids<;>first|exact k1.elim|skip
    rw[e] at k2;obtain⟨j1,j2,j3⟩:=k1;subst j1;obtain⟨ee,j3⟩:=dO j3;simp only[Ty.list.injEq] at ee;subst ee;have j3:xss=ys:=j3;subst j3;obtain⟨n1,n2,⟨cs,n3,n4,n5⟩,n6,n7,n8⟩:=k2;have hsl:=hsl r (by rw[e];rfl);have hlen:(bW (α:=List t0.den) none xss).length=List.length (α:=(Ty.list t0).den) xss:=by simp only[bW,jr];rfl
    rw[hlen] at n3;have hfz:∀ j g,E.has r (j+1) g->fz w (iF E R R') g:=fun j g hh=>by
     refine sH (h1.lt hh) (h1.base _ (h1.mine r (j+1) g hh)) (fun r' j' e9=>?_);obtain⟨j2,e8,e7⟩:=UG e9;obtain⟨rfl,rfl⟩:=h1.inj _ _ _ _ _ e8 hh;cases j' with
     | zero=>have:=e7.1 rfl;omega
     | succ i =>
      have e9:bK (wG E r' (aU R r') (aU R' r') i)=some g:=e9;rw[e,e'] at e9;cases e9
    have hrow:∀ i xs,xss[i]?=some xs->rep (fz w (iF E R R')) w (.list t0) [E.inn r i] xs:=fun i xs hi=>by
     obtain⟨ds,q1,q2,q3⟩:=n8 i xs hi;obtain⟨cs9,e9,r9⟩:=lD (E:=E) (F:=fz w (iF E R R')) q1 (aZ (fun c y=>bY hF hs t0 c y) _ _ q2) (fun g hg=>hfz i g hg);have r8:=r9;obtain⟨p9,c9,e8,_⟩:=r9;have e7:cs9=[E.inn r i]:=by have:E.inn r i=cs9.headD undef:=e9;rw[this,e8];rfl
     rw[<-e7];exact r8
    refine⟨by rw[hblk r (by rw[e'];rfl),hsl];exact n1,rfl,cs,by rw[hsl];exact n3,?_,by rw[hsl];exact n5,by rw[j2];exact a3k _⟩;rw[n4];show chunks _ ((List.range xss.length).map (E.inn r)) xss;exact vZ _ _ hrow
  | fro t ys v =>
   rw[e'] at k1;cases e:aU R r<;>rw[e] at k1<;>first|exact k1.elim|skip
   rename_i t0 xs v0;rw[e] at k2;obtain⟨j2,j3⟩:=k1;obtain⟨ee,j3⟩:=dO j3;simp only[Ty.list.injEq] at ee;subst ee;have j3:xs=ys:=j3;subst j3;exact⟨(hblk r (by rw[e'];rfl)).trans k2.1,by rw[hsl r (by rw[e];rfl)];exact fU hF hs k2.2⟩
  | mat el el2 t ids yss v =>
   rw[e'] at k1;cases e:aU R r<;>rw[e] at k1<;>first|exact k1.elim|skip
   ·rw[e] at k2;obtain⟨rfl,j1,j2,j3⟩:=k1;have hsl:(iF E R R').sl r=.slice none 0 0:=by show (if (aU R r).isNone then _ else _)=_;rw[e];rfl
    have hin:∀ i,bK ((iF E R R').inn r i)=none:=fun i=>by rw[AY,e,e'];rfl
    subst j1;refine⟨hnil r k2 hsl (by rw[e'];rfl),j3,⟨[],?_,rfl,?_⟩,fun i hi=>?_,fun i _=>hin i,fun i xs hi=>?_⟩
    ·rw[hsl];exact Bg w _ _ _
    ·rw[hsl];intro g hg;cases hg
    ·simp[bW] at hi
    ·simp at hi
   ·rename_i el0 c9q t0 a8A xss v0;rw[e] at k2;obtain⟨j1,j2,j3,j4⟩:=k1;subst j1 j2;obtain⟨n1,n2,⟨cs,n3,n4,n5⟩,n6,n7,n8⟩:=k2;have hsl:=hsl r (by rw[e];rfl);have hbl:=hblk r (by rw[e'];rfl);by_cases hn:∃ l,a8A=some l/\ids=none
    ·obtain⟨l,rfl,rfl⟩:=hn;obtain⟨j4,j5⟩:=j4;obtain⟨ee,j5⟩:=dO j5;simp only[Ty.list.injEq] at ee;subst ee;have j5:(l.map fun i=>xss.getD i [])=yss:=j5;have hlen:yss.length=l.length:=by rw[<-j5];simp
     have hin:∀ i j,l[i]?=some j->(iF E R R').inn r i=E.inn r j:=fun i j hi=>by rw[AY,e,e'];simp only[wG,TY,hi]
     have hin0:∀ i,l[i]?=none->bK ((iF E R R').inn r i)=none:=fun i hi=>by rw[AY,e,e'];simp only[wG,TY,hi];rfl
     refine⟨by rw[hbl,hsl];exact n1,n2,⟨cs,?_,?_,by rw[hsl];exact n5⟩,fun i hi=>by simpa [bW] using hi,fun i hi=>hin0 i (qm (by omega)),fun i xs hi=>?_⟩
     ·rw[hsl];have:(bW (none:Option (List Nat)) yss).length=(bW (some l) xss).length:=by simp[bW,hlen]
      rw[this];exact n3
     ·rw[n4];simp only[bW];apply List.ext_getElem?;intro i;rw[qo,qo,hlen];by_cases hi:i<l.length
      ·rw[Ae hi,dw hi];simp only[Option.map_some];rw[hin i l[i] (dw hi)]
      ·rw[qm (by simpa using hi),qm (l:=List.range l.length) (by simpa using hi)];rfl
     ·rw[<-j5,qo] at hi;cases hj:l[i]? with
      | none=>rw[hj] at hi;cases hi
      | some j =>
       rw[hj] at hi;simp only[Option.map_some,ah] at hi;have hjl:j<xss.length:=n6 j (by simp only[bW];exact Dh hj);obtain⟨ds,q1,q2,q3⟩:=n8 j xs (by rw[<-hi,bg,dw hjl];rfl);exact⟨ds,by rw[hin i j hj];exact q1,aZ (fun c y=>bY hF hs t0 c y) _ _ q2,by rw[hin i j hj];exact q3⟩
    ·obtain⟨j4,j5⟩:=b2g j4 (fun l e1 e2=>hn ⟨l,e1,e2⟩);subst j4;obtain⟨ee,j5⟩:=dO j5;simp only[Ty.list.injEq] at ee;subst ee;have j5:xss=yss:=j5;subst j5;have hin:(iF E R R').inn r=E.inn r:=by funext i;rw[AY,e,e'];cases a8A<;>rfl
     exact⟨by rw[hbl,hsl];exact n1,n2,⟨cs,by rw[hsl];exact n3,by rw[hin];exact n4,by rw[hsl];exact n5⟩,n6,by rw[hin];exact n7,fun i xs hi=>by
      obtain⟨ds,q1,q2,q3⟩:=n8 i xs hi;exact⟨ds,by rw[hin];exact q1,aZ (fun c y=>bY hF hs t0 c y) _ _ q2,by rw[hin];exact q3⟩⟩
 refine⟨iF E R R',h0,⟨h1.below,hres,fun r j r' j' q e1 e2=>?_,fun r j b e=>?_,h1.base,fun r i hi=>?_,fun r k e'=>?_,h1.dig⟩,h2.size,h2.defers,fun s=>?_,fun s=>?_,h2.par⟩
 ·obtain⟨i,f1,g1⟩:=UG e1;obtain⟨i',f2,g2⟩:=UG e2;obtain⟨rfl,rfl⟩:=h1.inj _ _ _ _ _ f1 f2;refine⟨rfl,?_⟩;cases j with
  | zero=>cases j' with
   | zero=>rfl
   | succ j'=>exact absurd (g2.2 (g1.1 rfl)) (by simp)
  | succ j=>cases j' with
   | zero=>exact absurd (g1.2 (g2.1 rfl)) (by simp)
   | succ j' =>
    have e1:bK (wG E r (aU R r) (aU R' r) j)=some q:=e1;have e2:bK (wG E r (aU R r) (aU R' r) j')=some q:=e2;rw[a8F (fun a c ha hc=>by have:=(h1.inj r (a+1) r (c+1) q ha hc).2;omega) (hr r) e1 e2]
 ·obtain⟨j',e',_⟩:=UG e;exact h1.mine r j' b e'
 ·have k1:=hres r;cases e':aU R' r with
  | mat el el2 t ids yss v =>
   rw[e'] at k1 hi;exact k1.2.2.2.2.1 i hi
  | _=>rw[AY,e'];cases aU R r<;>rfl
 ·have k1:=hr r;rw[e'] at k1;cases e:aU R r<;>rw[e] at k1<;>first|exact k1.elim|skip
  obtain⟨o1,o2⟩:=k1;obtain⟨q1,q2,b,v,t,q3,q4,q5,q6⟩:=h1.kbx r _ e;obtain⟨p1,p2⟩:=a4y hF o2 q1 q6;exact⟨p1,o1,b,v,t,(hblk r (by rw[e'];rfl)).trans q3,q4,q5,p2⟩
 all_goals rcases hk s with k1|⟨keq,IB⟩
 ·exact(a4y hF k1 (h2.wf s) (h2.holds s)).1
 rotate_left
 ·exact(a4y hF k1 (h2.wf s) (h2.holds s)).2
 rotate_left
 all_goals
  rw[keq];have hw:=h2.wf s;have k2:=h2.holds s;revert hw IB k2;generalize bF G s=k9;intro IB hw k2
 ·clear k2
  induction k9 with
  | when b k ih=>exact fun hb=>ih IB (hw hb)
  | mix ks =>
   intro k hk;cases k with
   | val t x=>trivial
   | own r v =>
    have:r ∈ (K.mix ks).res:=zl.2 ⟨_,hk,mg.2 rfl⟩;rw[IB] at this;cases this
   | _=>exact(by
    have:_ ∈ (K.mix ks).res:=zl.2 ⟨_,hk,mg.2 rfl⟩;rw[IB] at this;cases this)
  | fn g ks =>
   intro k hk;cases k with
   | val t x=>trivial
   | _=>exact(by
    have:_ ∈ (K.fn g ks).res:=zl.2 ⟨_,hk,mg.2 rfl⟩;rw[IB] at this;cases this)
  | pls ks =>
   intro k hk;cases k with
   | val t x=>trivial
   | _=>exact(by
    have:_ ∈ (K.pls ks).res:=zl.2 ⟨_,hk,mg.2 rfl⟩;rw[IB] at this;cases this)
  | pcl ks i =>
   intro k hk;cases k with
   | val t x=>trivial
   | _=>exact(by
    have:_ ∈ (K.pcl ks i).res:=zl.2 ⟨_,hk,mg.2 rfl⟩;rw[IB] at this;cases this)
  | _=>first|trivial|(simp[K.res] at IB;done)
 ·induction k9 with
  | any=>trivial
  | val t y=>exact fU hF hs k2
  | nil=>exact k2
  | tup ts y=>obtain⟨vs,j1,j2⟩:=k2;exact⟨vs,j1,kP hF hs ts vs y j2⟩
  | when b k ih=>exact⟨fun hb=>ih IB (hw hb) (k2.1 hb),k2.2⟩
  | mix ks =>
   obtain⟨vs,j1,j2⟩:=k2;refine⟨vs,j1,?_⟩;exact a2N ks vs (fun k hk=>by
    cases hkr:BK k with
    | nil=>rfl
    | cons r l =>
     have:r ∈ (K.mix ks).res:=zl.2 ⟨k,hk,by rw[hkr];exact je ..⟩;rw[IB] at this;cases this) j2
  | fn g ks =>
   obtain⟨vs,j1,j2⟩:=k2;exact⟨vs,j1,a2N ks vs (fun k hk=>by
    cases hkr:BK k with
    | nil=>rfl
    | cons r l =>
     have:r ∈ (K.fn g ks).res:=zl.2 ⟨k,hk,by rw[hkr];exact je ..⟩;rw[IB] at this;cases this) j2⟩
  | pls ks =>
   obtain⟨b,vs,j1,j2,j3,j4⟩:=k2;exact⟨b,vs,j1,hF b j2,lX hs j2 j3,a2N ks vs (fun k hk=>by
    cases hkr:BK k with
    | nil=>rfl
    | cons r l =>
     have:r ∈ (K.pls ks).res:=zl.2 ⟨k,hk,by rw[hkr];exact je ..⟩;rw[IB] at this;cases this) j4⟩
  | pcl ks i =>
   obtain⟨b,vs,j1,j2,j3,j4⟩:=k2;exact⟨b,vs,j1,hF b j2,lX hs j2 j3,a2N ks vs (fun k hk=>by
    cases hkr:BK k with
    | nil=>rfl
    | cons r l =>
     have:r ∈ (K.pcl ks i).res:=zl.2 ⟨k,hk,by rw[hkr];exact je ..⟩;rw[IB] at this;cases this) j4⟩
  | _=>simp[K.res] at IB
def Post (B:Book) (W:World) (base:Fix) (Q:Exit->Gam->Rho->Prop) (e:Exit) (a:Act) (w:World):Prop:=∃ G R,Q e G R/\St B W base G R a w
theorem KZ (hB:B.Ok) (hm:B.P.follows .mixedOrders=true) {id:Nat} {ops:Array Oper} {draw:Bool} {G:Gam} {R:Rho} {vc:List Cd} {G':Gam} {R':Rho} {Q:Exit->Gam->Rho->Prop} {a:Act} {w:World}
  (h:jJ B ops draw G R=some (vc,G',R')) (hv:dH vc) (hq:Q .normal G' R') (hs:St B W base G R a w):(Code.region id ops draw).wp B.P (Post B W base Q) a w:=by
 obtain⟨E,h0,h1,h2⟩:=hs;unfold jJ at h;cases draw with
 | true =>
  simp only[Du] at h;split at h<;>try(cases h;done)
  rename_i vc1 ss G1 R1 b9U;split at h<;>try(cases h;done)
  rename_i hb;simp only[ay] at hb;simp only[ah,ak] at h;obtain⟨rfl,rfl,rfl⟩:=h;exact a8b hB hm b9U hb.1.1 hb.1.2 hb.2 hv h1 h2 (fun E' a' w' m0 m1 m2=>⟨_,_,hq,E',m0.trans h0,m1,m2⟩)
 | false =>
  simp only[xu,if_false] at h;exact wp_region_list (a0a hB h hv h1 h2 (fun E' a' w' m0 m1 m2=>⟨_,_,hq,E',m0.trans h0,m1,m2⟩))
theorem ZU {c:Code} {ι:Type} (I:ι->Act->World->Prop) (m:ι->Nat) {Q:Exit->Act->World->Prop} (h:∀ i a w,I i a w->c.wp B.P (Exit.then (fun a' w'=>∃ i',m i'<m i/\I i' a' w') Q) a w):∀ n i a w,m i<n->I i a w->Code.rounds B.P c Q n a w
 | 0,i,a,w,hn,hi=>by omega
 | n+1,i,a,w,hn,hi=>by
  rw[rounds_succ];refine Cj (h i a w hi) (fun e a' w' hq=>?_);cases e with
  | normal =>
   obtain⟨i',h1,h2⟩:=hq;exact ZU I m h n i' a' w' (by omega) h2
  | _=>exact hq
def leL (G:Gam) (R:Rho) (S:Gam) (Z:Rho) (l:List Nat):Prop :=
 (∀ p ∈ S,leK R Z (bF G p.1) p.2)/\(∀ p ∈ cut (S.map (·.1)++l) G,(bF G p.1).res.isEmpty=true\/leK R Z (bF G p.1) (jC (bF G p.1)))/\∀ p ∈ Z,leR R Z (aU R p.1) p.2
theorem TP:∀ (S G:Gam) (s:Nat),(∃ p ∈ S,p.1=s/\bF (S++G) s=bF S s)\/((∀ p ∈ S,p.1≠s)/\bF (S++G) s=bF G s)
 | [],G,s=>.inr ⟨fun p hp=>(by cases hp),rfl⟩
 | (q,k)::S,G,s=>by
  simp only[List.cons_append,bF];by_cases e:s=q
  ·left;exact⟨(q,k),je ..,e.symm,by rw[dn e,dn e]⟩
  ·rw[bn e,bn e];rcases TP S G s with⟨p,h1,h2,h3⟩|⟨h1,h2⟩
   ·exact .inl ⟨p,jd _ h1,h2,h3⟩
   ·refine .inr ⟨fun p hp=>?_,h2⟩;rcases jh.1 hp with rfl|hp
    ·exact fun e'=>e e'.symm
    ·exact h1 p hp
theorem yM:∀ {S:Gam} {s:Nat},(∃ p ∈ S,p.1=s)->∃ p ∈ S,p.1=s/\bF S s=p.2
 | (q,k)::S,s,⟨p,hp,he⟩=>by
  simp only[bF];by_cases e:s=q
  ·exact⟨(q,k),je ..,e.symm,by rw[dn e]⟩
  ·rw[bn e];rcases jh.1 hp with rfl|hp
   ·exact absurd he.symm e
   ·obtain⟨p',h1,h2,h3⟩:=yM ⟨p,hp,he⟩;exact⟨p',jd _ h1,h2,h3⟩
 | [],s,⟨p,hp,_⟩=>by cases hp
theorem TR:∀ {S:Rho} {s:Nat},(∃ p ∈ S,p.1=s)->∃ p ∈ S,p.1=s/\aU S s=p.2
 | (q,k)::S,s,⟨p,hp,he⟩=>by
  simp only[aU];by_cases e:s=q
  ·exact⟨(q,k),je ..,e.symm,by rw[dn e]⟩
  ·rw[bn e];rcases jh.1 hp with rfl|hp
   ·exact absurd he.symm e
   ·obtain⟨p',h1,h2,h3⟩:=TR ⟨p,hp,he⟩;exact⟨p',jd _ h1,h2,h3⟩
 | [],s,⟨p,hp,_⟩=>by cases hp
theorem a4z {G:Gam} {R:Rho} {S:Gam} {Z:Rho} {l:List Nat} {a:Act} {w:World} (h:St B W base G R a w) (hl:leL G R S Z l):St B W base (S++rE (cut (S.map (·.1)++l) G)) Z a w:=by
 obtain⟨h1,h2,h3⟩:=hl;have hRr:∀ r,leR R Z (aU R r) (aU Z r):=fun r=>by
  rcases a2H Z r with e|hm
  ·rw[e];cases aU R r<;>trivial
  ·obtain⟨p',j1,rfl,j3⟩:=TR hm;rw[j3];exact h3 p' j1
 refine b8y h (fun s=>?_) hRr;rcases TP S (rE (cut (S.map (·.1)++l) G)) s with⟨p,k1,k2,k3⟩|⟨k1,k2⟩
 ·left;rw[k3];obtain⟨p',j1,rfl,j3⟩:=yM ⟨p,k1,k2⟩;rw[j3];exact h1 p' j1
 ·rw[k2,vH];rcases AV (l:=S.map (·.1)++l) G s with e|e
  ·rcases TQ (cut (S.map (·.1)++l) G) s with e2|hm
   ·left;rw[e2];cases bF G s<;>trivial
   ·obtain⟨p',j1,rfl,j3⟩:=yM hm;by_cases hc:(bF G p'.1).res.isEmpty=true
    ·right;have h0:(bF G p'.1).res=[]:=List.isEmpty_iff.1 hc;rw[e];exact⟨a4W h0,h0⟩
    ·left;rw[e];exact(h2 p' j1).resolve_left hc
  ·left;rw[e];cases bF G s<;>trivial
theorem St.congr {G G':Gam} {R:Rho} {a:Act} {w:World} (h:St B W base G R a w) (hg:∀ s,bF G' s=bF G s):St B W base G' R a w:=by obtain⟨E,h0,h1,h2⟩:=h;exact⟨E,h0,h1,h2.size,h2.defers,fun s=>by rw[hg];exact h2.wf s,fun s=>by rw[hg];exact h2.holds s,h2.par⟩
end
end
end Go.Proofs.YtbkocjmmbkifjaaGreat
