/-
  Lemmas for the theorem veight28_holds, part 13 of 32.
-/
import Derived.Test.YtbkocjmmbkifjaaGreatQg12
namespace Go.Proofs.YtbkocjmmbkifjaaGreat
open Go Go.RowKit
section
set_option linter.unusedSimpArgs false
set_option linter.unusedVariables false
def xH (ρ:Nat->Res):(ts:List Ty)->List K->Option (List Cd × (nest ts).den × List (Nat × Res))
 | [],[]=>some ([],(),[])
 | t::ts,k::ks=>match tJ ρ (some t) k with
  | some (p,l)=>match jG p.t t,xH (after ρ l) ts ks with
   | some q,some (vc,x,l')=>some (q.c p.x++vc,(q.f p.x,x),l++l')
   | _,_=>none
  | none=>none
 | _,_=>none
def SB:(t:Ty)->t.den->List K
 | .pair a b,x=>.val a x.1::SB b x.2
 | _,_=>[]
def uJ:Ty->Bool
 | .pair a b=>!a.agg&&uJ b
 | .unit=>true
 | _=>false
def a5f:List K->Option Part
 | []=>some ⟨.unit,()⟩
 | .val t x::ks=>if t.agg then none else (a5f ks).map fun p=>⟨.pair t p.t,(x,p.x)⟩
 | _=>none
def IL (P:Program) (g:FuncId):Bool:=match P.funcs[g]? with
 | some fn=>!(fn.name == "runtime.NumGoroutine")&&!fn.body.isNone
 | none=>false
def BJ:List K->Option (List K0)
 | []=>some []
 | .val t x::ks=>if t.agg then none else (BJ ks).map fun l=>.val t x::l
 | .ptr r o::ks=>(BJ ks).map fun l=>.ptr r o::l
 | .kY r::ks=>(BJ ks).map fun l=>.kY r::l
 | _=>none
def Ty.free:Ty->Bool
 | .bool=>true
 | .int _=>true
 | .lf _=>true
 | .arr _ t=>t.free
 | .pair a b=>a.free&&b.free
 | .unit=>true
 | _=>false
def rowsOf {α:Type} (ids:Option (List Nat)) (xss:List (List α)):List (List α):=match ids with
 | none=>xss
 | some l=>l.map (rowAt xss)
def c0u:Option Ty->Bool
 | some (.nls _)=>true
 | _=>false
def rZ (ρ:Nat->Res) (t:Option Ty):K->Option Part
 | .val t x=>some ⟨t,x⟩
 | .nil=>match t with
  | some (.list u)=>some ⟨.list u,[]⟩
  | some (.nls u)=>some ⟨.nls u,none⟩
  | _=>none
 | .own r v=>match ρ r with
  | .row _ u xs v'=>if gv v=gv v' then (if c0u t&&v'%2==1 then some ⟨.nls u,some xs⟩ else some ⟨.list u,xs⟩) else none
  | .fro t xs v'=>if gv v=gv v' then some ⟨.list t,xs⟩ else none
  | .mat _ _ t ids xss v'=>if gv v=gv v' then some ⟨.list (.list t),rowsOf ids xss⟩ else none
  | _=>none
 | .mrow r v i=>match ρ r with
  | .mat _ _ t _ xss v'=>if v=v' then some ⟨.list t,rowAt xss i⟩ else none
  | _=>none
 | _=>none
def c0L (p:Part):Part:=⟨.ref p.t,p.x⟩
def b4j (t:Option Ty) (ps:List Part) (o:Nat):Option Part:=match t,KC ps o with
 | some (.ref u),some (_,qs)=>(pack u qs).map fun p=>c0L p.1
 | _,_=>none
def BQ (ρ:Nat->Res) (t:Option Ty):K->Option Part
 | .ptr r o=>match ρ r with
  | .box ps=>b4j t ps o
  | _=>none
 | .kY r=>match ρ r with
  | .jW k=>match t with
   | some (.ref u)=>(rZ ρ (some u) k).map c0L
   | _=>none
  | _=>none
 | k=>rZ ρ t k
def fU (ρ:Nat->Res):Ty->List K0->Option Part
 | .unit,[]=>some ⟨.unit,()⟩
 | .pair a b,k::ks=>match BQ ρ (some a) (k0K k),fU ρ b ks with
  | some p,some q=>if p.t.agg then none else some ⟨.pair p.t q.t,(p.x,q.x)⟩
  | _,_=>none
 | _,_=>none
def c1W (g:Nat) (p:Part):Part:=⟨.clo g p.t,p.x⟩
def RZ (ρ:Nat->Res) (t:Ty):K->Option Part
 | .fn g ks=>match t with
  | .clo _ u=>(fU ρ u ks).map (c1W g)
  | _=>none
 | k=>BQ ρ (some t) k
def lV (ρ:Nat->Res):(ts:List Ty)->List K->Option (List Cd × (nest ts).den)
 | [],[]=>some ([],())
 | t::ts,k::ks=>match RZ ρ t k with
  | some p=>match jG p.t t,lV ρ ts ks with
   | some q,some (vc,x)=>some (q.c p.x++vc,(q.f p.x,x))
   | _,_=>none
  | none=>none
 | _,_=>none
def b9P (c:Ctr):Bool:=c.res.all Ty.free
def a4S {α:Type} (a:List Cd × α):List Cd × α × List (Nat × Res):=(a.1,a.2,[])
def ZJ (ρ:Nat->Res) (c:Ctr) (ks:List K):Option (List Cd × (nest c.args).den × List (Nat × Res)) :=
 orC (if b9P c then (lV ρ c.args ks).map a4S else none) (xH ρ c.args ks)
def b3x (c:Ctr) (a:List Cd × (nest c.args).den × List (Nat × Res)):List Cd × K × List (Nat × Res):=(a.1++([⟨c.pre a.2.1,(c.dec a.2.1).d⟩]:List Cd),a9L c.res (c.fn a.2.1),a.2.2)
def BI (ρ:Nat->Res) (ks:List K):List Ctr->MK
 | []=>none
 | c::cs=>match ZJ ρ c ks with
  | some a=>some (b3x c a)
  | none=>BI ρ ks cs
def b2k:K->At
 | .val t _=>.ty t
 | .fn g _=>.fn g
 | _=>.no
def tK (P:Program) (C:FuncId->List At->List Ctr) (ρ:Nat->Res) (k:Operand->K):Op->MK
 | .makeFunc (.func g) first caps=>if first.isEmpty then (match a5f (caps.toList.map k) with
  | some p=>some ([],.val (.clo g p.t) p.x,[])
  | none=>(BJ (caps.toList.map k)).map fun l=>([],.fn g l,[])) else none
 | .call { callee:=.value f,args:=xs,argTypes:=_ }=>match k f with
  | .val (.clo g t) cx=>if IL P g&&uJ t then BI ρ (xs.toList.map k++SB t cx) (C g ((xs.toList.map k++SB t cx).map b2k)) else none
  | .fn g l=>if IL P g then BI ρ (xs.toList.map k++l.map k0K) (C g ((xs.toList.map k++l.map k0K).map b2k)) else none
  | _=>none
 | _=>none
section
variable {P:Program} {E:Env} {ρ:Nat->Res} {W w:World}
theorem NP:∀ {ts:List Ty} {ks:List K} {ρ:Nat->Res} {E:Env} {vc:List Cd} {x:(nest ts).den} {l:List (Nat × Res)} {vs:List Value},xH ρ ts ks=some (vc,x,l)->dK vc->Mem E ρ W w->(∀ k ∈ ks,k.wf ρ)->jZ (fun k v=>K.holds E ρ w k v) ks vs ->
  ∃ E',Mem E' (after ρ l) W w/\Ext E ρ w E' (after ρ l) w/\iI (fz w E') w ts vs x
 | [],[],ρ,E,vc,x,l,vs,h,hv,hM,hw,hk=>by
  simp only[xH,aj,bf] at h
  obtain⟨_,_,rfl⟩:=h
  cases hk
  exact⟨E,hM,Ext.refl _ _ _,rfl⟩
 | [],_::_,ρ,E,vc,x,l,vs,h,hv,hM,hw,hk=>by simp[xH] at h
 | _::_,[],ρ,E,vc,x,l,vs,h,hv,hM,hw,hk=>by simp[xH] at h
 | t::ts,k::ks,ρ,E,vc,x,l,vs,h,hv,hM,hw,hk=>by
  simp only[xH] at h
  split at h<;>try(cases h;done)
  rename_i p l1 h1
  split at h<;>try(cases h;done)
  rename_i q vc2 x2 l2 hq h2
  simp only[aj,bf] at h
  obtain⟨rfl,rfl,rfl⟩:=h
  cases hk
  rename_i v vs hv1 hvs
  obtain⟨E1,m1,m2,m3⟩:=lX h1 hM (hw k (lg ..)) hv1
  have b4X:jZ (fun k v=>K.holds E1 (after ρ l1) w k v) ks vs:=by
   have hw':∀ k ∈ ks,k.wf ρ:=fun k hk=>hw k (jw _ hk)
   clear h2 hw
   induction hvs with
   | nil=>exact .nil
   | cons a b ih=>exact .cons (m2.holds _ _ (hw' _ (lg ..)) a) (ih (fun k hk=>hw' k (jw _ hk)))
  obtain⟨hva,hvb⟩:=bY.1 hv
  obtain⟨E2,n1,n2,n3⟩:=NP h2 hvb m1 (fun k hk=>m2.wf k (hw k (jw _ hk))) b4X
  refine⟨E2,by rw[fF];exact n1,by rw[fF];exact m2.trans n2,v,vs,rfl,?_,n3⟩
  obtain⟨cs,rfl,hr⟩:=fB n2.fz n2.stay m3
  exact⟨cs,by unfold Ty.toV;rw[uK _ _ _ hq],sJ _ _ _ hq cs _ hr hva⟩
theorem WX {F:Nat->Prop}:(t:Ty)->(x:t.den)->(ds:List Value)->uJ t=true->rep F w t ds x->(∀ q,F q->fz w E q)->jZ (fun k v=>K.holds E ρ w k v) (SB t x) ds/\∀ k ∈ SB t x,k.wf ρ
 | .pair a b,x,ds,h,⟨c1,c2,h1,h2,h3⟩,hF=>by
  simp only[uJ,au,gy] at h
  obtain⟨k1,k2⟩:=WX b x.2 c2 h.2 h3 hF
  have hl:=dF a _ _ h2
  have hn:a.n=1:=by
   have:=h.1
   cases a<;>simp_all [Ty.agg,Ty.n]
   rename_i l;cases l<;>simp_all [Lf.agg,Lf.n]
  rw[hn] at hl
  obtain⟨v,rfl⟩:∃ v,c1=[v]:=by
   match c1,hl with
   | [v],_=>exact⟨v,rfl⟩
  refine⟨by rw[h1];exact .cons ⟨[v],by unfold Ty.toV;rw[h.1];rfl,bI hF (iJ.refl _ _) a _ _ h2⟩ k1,fun k hk=>?_⟩
  rcases qp.1 hk with rfl|hk
  ·trivial
  ·exact k2 k hk
 | .unit,x,ds,h,hr,hF=>⟨by rw[show ds=[] from hr];exact .nil,fun k hk=>by cases hk⟩
 | .bool,x,ds,h,hr,hF=>by simp[uJ] at h
 | .int _,x,ds,h,hr,hF=>by simp[uJ] at h
 | .lf _,x,ds,h,hr,hF=>by simp[uJ] at h
 | .list _,x,ds,h,hr,hF=>by simp[uJ] at h
 | .arr _ _,x,ds,h,hr,hF=>by simp[uJ] at h
 | .ref _,x,ds,h,hr,hF=>by simp[uJ] at h
 | .clo _ _,x,ds,h,hr,hF=>by simp[uJ] at h
 | .nls _,x,ds,h,hr,hF=>by simp[uJ] at h
theorem a3i:∀ {ks:List K} {p:Part} {vs:List Value},a5f ks=some p->jZ (fun k v=>K.holds E ρ w k v) ks vs->rep (fz w E) w p.t vs p.x
 | [],p,vs,h,hk=>by
  simp only[a5f,aj] at h
  subst h
  cases hk
  rfl
 | k::ks,p,vs,h,hk=>by
  cases k<;>try (simp[a5f] at h;done)
  rename_i t x
  simp only[a5f] at h
  split at h<;>try(cases h;done)
  rename_i ha
  simp only[jq] at h
  obtain⟨p',h1,rfl⟩:=h
  cases hk
  rename_i v vs hv hvs
  obtain⟨cs,rfl,hr⟩:=hv
  have ha:t.agg=false:=by simpa using ha
  have hl:=dF t _ _ hr
  have hn:t.n=1:=by
   cases t<;>simp_all [Ty.agg,Ty.n]
   rename_i l;cases l<;>simp_all [Lf.agg,Lf.n]
  rw[hn] at hl
  obtain⟨v,rfl⟩:∃ v,cs=[v]:=by
   match cs,hl with
   | [v],_=>exact⟨v,rfl⟩
  exact⟨[v],vs,by unfold Ty.toV;rw[ha];rfl,hr,a3i h1 hvs⟩
theorem TL {g:FuncId} {args:Array Value} (h:IL P g=true):(callFunc g args).run P w=.ok (.enter g args) w:=by
 unfold IL at h
 split at h<;>try(cases h;done)
 rename_i fn hf
 simp only[au,gy] at h
 unfold callFunc
 rw[jk]
 show (Result.ok P w).andThen _=_
 simp only[Result.andThen_ok,hf,h.1,h.2,zy,if_false]
 rfl
theorem MN {F:Nat->Prop} {ts:List Ty} {v:Value} {y:(nest ts).den} (hF:∀ q,F q->fz w E q) (h:oW F w ts v y):(a9L ts y).holds E ρ w v/\(a9L ts y).wf ρ:=by
 match ts,y,h with
 | [t],y,h=>exact⟨fB hF (iJ.refl _ _) h,trivial⟩
 | [],y,⟨vs,h1,h2⟩=>exact⟨⟨vs,h1,jI hF (iJ.refl _ _) [] vs y h2⟩,trivial⟩
 | t1::t2::ts,y,⟨vs,h1,h2⟩=>exact⟨⟨vs,h1,jI hF (iJ.refl _ _) _ vs y h2⟩,trivial⟩
def zK (P:Program) (E:Env) (ρ:Nat->Res) (W w:World) (o:Oper) (a:Act) (k:K) (l:List (Nat × Res)):Prop :=
 ∀ (next:Act->World->Prop) (Q:Exit->Act->World->Prop),(∀ v w' E',Mem E' (after ρ l) W w'->Ext E ρ w E' (after ρ l) w'->k.wf (after ρ l)->k.holds E' (after ρ l) w' v->next (a.put o.dst v) w')->o.wp P a w next Q
theorem dP.steps {o:Oper} {a:Act} {k:K} {l:List (Nat × Res)} (h:dP P E ρ W w o a.eval k l):zK P E ρ W w o a k l:=by
 intro next Q hn
 obtain⟨nx,v,w',E',h1,h2,h3,h4,h5,h6⟩:=h
 unfold Oper.wp
 rw[h1]
 rcases h2 with rfl|⟨rfl,rfl⟩
 ·exact hn v w' E' h3 h4 h5 h6
 ·exact hn undef w' E' h3 h4 h5 h6
theorem nU {F F':Nat->Prop} {w:World}:(t:Ty)->t.free=true->(cs:List Value)->(x:t.den)->rep F w t cs x->rep F' w t cs x
 | .bool,_,_,_,h=>h
 | .int _,_,_,_,h=>h
 | .lf _,_,_,_,h=>h
 | .list _,hf,_,_,_=>by simp[Ty.free] at hf
 | .arr n t,hf,_,_,⟨h1,h2⟩=>⟨h1,aQ (fun c y=>nU t (by simpa [Ty.free] using hf) c y) _ _ h2⟩
 | .pair a b,hf,_,_,⟨c1,c2,h1,h2,h3⟩=>by
  simp only[Ty.free,au] at hf
  exact⟨c1,c2,h1,nU a hf.1 _ _ h2,nU b hf.2 _ _ h3⟩
 | .unit,_,_,_,h=>h
 | .ref _,hf,_,_,_=>by simp[Ty.free] at hf
 | .clo _ _,hf,_,_,_=>by simp[Ty.free] at hf
 | .nls _,hf,_,_,_=>by simp[Ty.free] at hf
theorem a1n {F F':Nat->Prop} {w:World}:(ts:List Ty)->ts.all Ty.free=true->(vs:List Value)->(x:(nest ts).den)->iI F w ts vs x->iI F' w ts vs x
 | [],_,_,_,h=>h
 | t::ts,hf,_,x,⟨v,vs',h1,⟨cs,h2,h3⟩,h4⟩=>by
  simp only[List.all_cons,au] at hf
  exact⟨v,vs',h1,⟨cs,h2,nU t hf.1 _ _ h3⟩,a1n ts hf.2 vs' x.2 h4⟩
theorem QX {F F':Nat->Prop} {w:World} {ts:List Ty} {v:Value} {y:(nest ts).den} (hf:ts.all Ty.free=true) (h:oW F w ts v y):oW F' w ts v y:=by
 match ts,y,h with
 | [t],y,h =>
  obtain⟨cs,h1,h2⟩:=h
  exact⟨cs,h1,nU t (by simpa using hf) _ _ h2⟩
 | [],y,⟨vs,h1,h2⟩=>exact⟨vs,h1,h2⟩
 | t1::t2::ts,y,⟨vs,h1,h2⟩=>exact⟨vs,h1,a1n _ hf vs y h2⟩
def BL (w:World) (q:Nat):Prop:=q<w.heap.size
theorem a7H {q:Nat} (h:fz w E q):BL w q:=h.1.1
theorem b5u {F:Nat->Prop} {e:TypeId} {t:Ty} {v:Value} {xs:List t.den} {cs:List Value} (h:w.ownsRow 0 e t.n v xs.length cs) (hv:iV F w (.list t) v xs) (hn:v≠.slice none 0 0):iV F w (.nls t) v (some xs):=by
 rcases h.2 with⟨h1,_⟩|⟨g,cap,cur,h1,_⟩
 ·exact absurd h1 hn
 ·obtain⟨cs',hv1,p,c,h2,h3,h4,h5⟩:=hv
  have e1:v=.slice p xs.length c:=by rw[hv1,h2];rfl
  rw[h1,Value.slice.injEq] at e1
  obtain⟨rfl,_,rfl⟩:=e1
  refine⟨cs',hv1,.inr ?_⟩
  rcases h5 with h5|⟨b,o,ds,k1,k2,k3,k4⟩
  ·exact⟨xs,g,0,cap,[],rfl,h2,h3,h4,.inl h5⟩
  ·cases k1
   exact⟨xs,g,0,cap,ds,rfl,h2,h3,h4,.inr ⟨k2,k3,k4⟩⟩
theorem VU {F:Nat->Prop} {t:Option Ty} {k:K} {p:Part} {v:Value} (h:rZ ρ t k=some p) (hM:Mem E ρ W w) (hw:k.wf ρ) (hk:k.holds E ρ w v) (hF:∀ q,fz w E q->F q) (ho:∀ r ver,k=.own r ver->∀ j g,E.has r j g->F g) (hm:∀ r ver i,k=.mrow r ver i->∀ g,E.has r (i+1) g->F g):iV F w p.t v p.x:=by
 have hst:=iJ.refl (fz w E) w
 cases k<;>try (simp[rZ] at h;done)
 case val t x =>
  simp only[rZ,aj] at h
  subst h
  exact fB hF hst hk
 case nil =>
  cases t<;>simp only[rZ] at h<;>try(cases h;done)
  rename_i t
  cases t<;>simp only[aj] at h<;>try(cases h;done)
  ·subst h
   exact⟨[.slice none 0 0],hk,none,0,rfl,by simp,by omega,.inl rfl⟩
  ·subst h
   exact⟨[.slice none 0 0],hk,.inl ⟨rfl,rfl⟩⟩
 case own r ver =>
  simp only[rZ] at h
  have h1:=hM.res r
  split at h<;>try(cases h;done)
  all_goals
   rename_i hr
   split at h<;>try(cases h;done)
   rename_i hv0
   have hv:v=E.sl r:=hk (by rw[hr];exact hv0.symm)
   rw[hr] at h1
   rw[hv]
  ·obtain⟨k1,k2,cs,k3,k4,k5⟩:=h1
   have hvr:=jT (E:=E) k3 (aQ (fun c y=>bI hF hst _ c y) _ _ k4) (fun g hg=>ho r ver rfl 0 g (k1.trans hg))
   split at h
   ·rename_i hn
    simp only[aj] at h
    subst h
    simp only[au,jf] at hn
    exact b5u k3 hvr (k5.2 hn.2)
   ·simp only[aj] at h
    subst h
    exact hvr
  ·simp only[aj] at h
   subst h
   exact fB hF hst h1.2
  ·simp only[aj] at h
   subst h
   rename_i e e2 t ids xss v9
   obtain⟨k1,k2,⟨cs,k3,k4,k5⟩,k6,k7,k8⟩:=h1
   have hrow:∀ i,i<xss.length->rep (F) w (.list t) [E.inn r i] (rowAt xss i):=fun i hi=>by
    obtain⟨ds,q1,q2,q3⟩:=k8 i (rowAt xss i) (getD_at _ _ _ hi)
    obtain⟨cs9,e9,r9⟩:=jT (E:=E) (F:=F) q1 (aQ (fun c y=>bI hF hst t c y) _ _ q2) (fun g hg=>ho r ver rfl (i+1) g hg)
    have r8:=r9
    obtain⟨p9,c9,e8,_⟩:=r9
    have e7:cs9=[E.inn r i]:=by
     have:E.inn r i=cs9.headD undef:=e9
     rw[this,e8];rfl
    rw[<-e7];exact r8
   have key:∀ (l:List Nat),(∀ i ∈ l,i<xss.length)->chunks (rep (F) w (.list t)) (l.map (E.inn r)) (l.map (rowAt xss)):=by
    intro l
    induction l with
    | nil=>intro _;rfl
    | cons i l ih=>intro hl;exact⟨[E.inn r i],_,rfl,hrow i (hl i (lg ..)),ih (fun j hj=>hl j (jw _ hj))⟩
   have hval:rowsOf ids xss=(bJ ids xss).map (rowAt xss):=by
    cases ids with
    | some l=>rfl
    | none =>
     simp only[bJ,rowsOf]
     apply Dl
     intro i
     rw[uf]
     by_cases hi:i<xss.length
     ·rw[Ap hi];exact getD_at _ _ _ hi
     ·rw[qw (by omega),qw (by simpa using hi)];rfl
   show iV (F) w (.list (.list t)) (E.sl r) (rowsOf ids xss)
   rw[hval]
   refine jT (E:=E) (t:=.list t) (e:=e) (cs:=cs) ?_ (by rw[k4];exact key _ k6) (fun g hg=>ho r ver rfl 0 g (k1.trans hg))
   have e9:(bJ ids xss).length=List.length (α:=(Ty.list t).den) ((bJ ids xss).map (rowAt xss)):=(ru ..).symm
   exact e9 ▸ k3
 case mrow r ver i =>
  simp only[rZ] at h
  split at h<;>try(cases h;done)
  rename_i hr
  split at h<;>try(cases h;done)
  rename_i hv
  subst hv
  simp only[aj] at h
  subst h
  have hv:v=E.inn r i:=hk (by rw[hr];rfl)
  have hi:=hw.2 (by rw[hr];rfl)
  rw[hr] at hi
  obtain⟨cs,q1,q2,q3⟩:=lT hM hr hi
  rw[hv]
  exact jT (E:=E) q1 (aQ (fun c y=>bI hF hst _ c y) _ _ q2) (fun g hg=>hm r ver i rfl g hg)
theorem a1r {t:Option Ty} {k:K} {p:Part} {v:Value} (h:rZ ρ t k=some p) (hM:Mem E ρ W w) (hw:k.wf ρ) (hk:k.holds E ρ w v):iV (BL w) w p.t v p.x:=VU h hM hw hk (fun q h=>a7H h) (fun r _ _ j g hg=>hM.lt hg) (fun r _ i _ g hg=>hM.lt hg)
theorem a1q {t:Option Ty} {k:K} {p:Part} {v:Value} (h:BQ ρ t k=some p) (hM:Mem E ρ W w) (hw:k.wf ρ) (hk:k.holds E ρ w v):iV (BL w) w p.t v p.x:=by
 have hF:∀ q,fz w E q->BL w q:=fun q h=>a7H h
 cases k
 case ptr r o =>
  simp only[BQ] at h
  split at h<;>try(cases h;done)
  rename_i ps hr
  unfold b4j at h
  split at h<;>try(cases h;done)
  rename_i u a qs hd
  simp only[jq] at h
  obtain⟨⟨p1,p2⟩,h1,rfl⟩:=h
  have h2:=hM.res r
  rw[hr] at h2
  obtain⟨b,cs,e,k1,k3,k4⟩:=h2
  obtain⟨b',g1,g2⟩:=hk
  rw[g1] at k1;cases k1
  obtain⟨rfl,e2⟩:=rH ps o _ _ hd
  obtain⟨c1,c2,rfl,n1,n2⟩:=nC k4
  obtain⟨c3,c4,rfl,n3,n4⟩:=qX u _ _ _ _ h1 n2
  have hl:=pR n1
  refine⟨[v],rfl,b,o,c3,by rw[g2],hM.lt (r:=r) (j:=0) g1,fun j x hx=>?_,bI hF (iJ.refl _ _) _ _ _ n3.1⟩
  rw[yu _ _ _ _ _ _ k3]
  simp only[List.getElem?_toArray]
  rw[List.getElem?_append_right (by omega),hl,e2,Nat.add_sub_cancel_left,Ai (by have:=(oz.1 hx).1;exact this)]
  exact hx
 case kY r =>
  simp only[BQ] at h
  split at h<;>try(cases h;done)
  rename_i k9 hr
  split at h<;>try(cases h;done)
  rename_i u
  simp only[jq] at h
  obtain⟨p1,h1,rfl⟩:=h
  obtain⟨q1,q2,b,x,e,q3,q4,q5,q6⟩:=hM.kbx r k9 hr
  obtain⟨b',g1,g2⟩:=hk (by rw[hr];trivial)
  rw[g1] at q3;cases q3
  obtain⟨cs,h2,h3⟩:=a1r h1 hM q1 q6
  have hcs:cs=[x]:=by
   have hl:=dF _ _ _ h3
   have hc:=mV _ _ _ h3
   rw[<-h2] at hc
   obtain⟨_,hx⟩:=one_cell q2 q6 (fun r' ver e=>by
    rw[e] at h1
    simp only[rZ] at h1
    split at h1<;>first|(cases h1;done)|skip
    all_goals
     rename_i hr9
     split at h1<;>first|(cases h1;done)|skip
     rename_i hv9
     rw[hr9];exact hv9.symm) hM
   rw[hx] at hc
   simpa using hc.symm
  subst hcs
  refine⟨[v],rfl,b,0,[x],by rw[g2],hM.lt (r:=r) (j:=0) g1,fun j u hu=>?_,h3⟩
  rw[tu,yu _ _ _ _ _ _ q4];simpa using hu
 all_goals exact a1r (by simpa only[BQ] using h) hM hw hk
theorem KO:∀ {u:Ty} {ks:List K0} {p:Part} {vs:List Value},fU ρ u ks=some p->Mem E ρ W w->(∀ k ∈ ks,EW ρ k)->kH (fz w E) E ρ w ks vs->rep (BL w) w p.t vs p.x
 | .unit,[],p,vs,h,hM,hw,hk=>by
  simp only[fU,aj] at h
  subst h
  exact hk
 | .pair a b,k::ks,p,vs,h,hM,hw,⟨v,vs',e1,e2,e3⟩=>by
  simp only[fU] at h
  split at h<;>try(cases h;done)
  rename_i p1 q1 h1 h2
  split at h<;>try(cases h;done)
  rename_i hag
  simp only[aj] at h
  subst h
  have ih:=KO h2 hM (fun k hk=>hw k (jw _ hk)) e3
  obtain⟨cs,h3,h4⟩:=a1q h1 hM (PL.1 (hw k (lg ..))) (uX.1 e2)
  have hag:p1.t.agg=false:=by simpa using hag
  have hl:=dF _ _ _ h4
  have hn:p1.t.n=1:=by
   obtain⟨pt,px⟩:=p1
   cases pt<;>simp_all [Ty.agg,Ty.n]
   rename_i l;cases l<;>simp_all [Lf.agg,Lf.n]
  rw[hn] at hl
  match cs,hl with
  | [x],_ =>
   have:v=x:=by rw[h3];unfold Ty.toV;rw[hag];rfl
   subst this
   exact⟨[v],vs',e1,h4,ih⟩
 | .unit,_::_,p,vs,h,_,_,_=>by simp[fU] at h
 | .pair _ _,[],p,vs,h,_,_,_=>by simp[fU] at h
 | .bool,_,p,vs,h,_,_,_=>by simp[fU] at h
 | .int _,_,p,vs,h,_,_,_=>by simp[fU] at h
 | .lf _,_,p,vs,h,_,_,_=>by simp[fU] at h
 | .list _,_,p,vs,h,_,_,_=>by simp[fU] at h
 | .arr _ _,_,p,vs,h,_,_,_=>by simp[fU] at h
 | .ref _,_,p,vs,h,_,_,_=>by simp[fU] at h
 | .clo _ _,_,p,vs,h,_,_,_=>by simp[fU] at h
 | .nls _,_,p,vs,h,_,_,_=>by simp[fU] at h
theorem b0P {t:Ty} {k:K} {p:Part} {v:Value} (h:RZ ρ t k=some p) (hM:Mem E ρ W w) (hw:k.wf ρ) (hk:k.holds E ρ w v):iV (BL w) w p.t v p.x:=by
 cases k
 case fn g ks =>
  simp only[RZ] at h
  split at h<;>try(cases h;done)
  simp only[jq] at h
  obtain⟨p1,h1,rfl⟩:=h
  obtain⟨vs,rfl,h2⟩:=hk
  exact⟨[.func (.func g) #[] vs.toArray],rfl,vs,rfl,KO h1 hM hw h2⟩
 all_goals exact a1q (by simpa only[RZ] using h) hM hw hk
theorem zD:∀ {ts:List Ty} {ks:List K} {vc:List Cd} {x:(nest ts).den} {vs:List Value},lV ρ ts ks=some (vc,x)->dK vc->Mem E ρ W w->(∀ k ∈ ks,k.wf ρ)->jZ (fun k v=>K.holds E ρ w k v) ks vs->iI (BL w) w ts vs x
 | [],[],vc,x,vs,h,hv,hM,hw,hk=>by cases hk;rfl
 | [],_::_,vc,x,vs,h,hv,hM,hw,hk=>by simp[lV] at h
 | _::_,[],vc,x,vs,h,hv,hM,hw,hk=>by simp[lV] at h
 | t::ts,k::ks,vc,x,vs,h,hv,hM,hw,hk=>by
  simp only[lV] at h
  split at h<;>try(cases h;done)
  rename_i p h1
  split at h<;>try(cases h;done)
  rename_i q vc2 x2 hq h2
  simp only[aj,bf] at h
  obtain⟨rfl,rfl⟩:=h
  cases hk
  rename_i v vs hv1 hvs
  obtain⟨hva,hvb⟩:=bY.1 hv
  obtain⟨cs,rfl,hr⟩:=b0P h1 hM (hw k (lg ..)) hv1
  exact⟨_,vs,rfl,⟨cs,by unfold Ty.toV;rw[uK _ _ _ hq],sJ _ _ _ hq cs _ hr hva⟩,zD h2 hvb hM (fun k hk=>hw k (jw _ hk)) hvs⟩
theorem a6P {cs:List Ctr} {g:FuncId} (hC:∀ c ∈ cs,aI P g c) {ks:List K} {vs:List Value} {vc:List Cd} {kk:K} {l:List (Nat × Res)} (h:BI ρ ks cs=some (vc,kk,l)) (hv:dK vc) (hM:Mem E ρ W w) (hw:∀ k ∈ ks,k.wf ρ) (hk:jZ (fun k v=>K.holds E ρ w k v) ks vs)
  {Q:Ending->World->Prop} (hq:∀ v w' E',Mem E' (after ρ l) W w'->Ext E ρ w E' (after ρ l) w'->kk.wf (after ρ l)->kk.holds E' (after ρ l) w' v->Q (.returned v) w'):Calls P g vs.toArray w Q:=by
 induction cs with
 | nil=>simp[BI] at h
 | cons c cs ih =>
  simp only[BI] at h
  split at h
  ·rename_i a ha
   simp only[aj] at h
   obtain⟨vc1,x,l1⟩:=a
   simp only[b3x,bf] at h
   obtain⟨rfl,rfl,rfl⟩:=h
   obtain⟨hv1,hpre,_⟩:=bY.1 hv
   unfold ZJ at ha
   rcases vX ha with hb|ha
   ·split at hb<;>first|(cases hb;done)|skip
    rename_i hf
    simp only[jq] at hb
    obtain⟨⟨vc2,x2⟩,hb9,e9⟩:=hb
    simp only[a4S,bf] at e9
    obtain⟨rfl,rfl,rfl⟩:=e9
    refine(hC c (lg ..) (BL w) w _ x2 (fun q hq=>hq) (zD hb9 hv1 hM hw hk) hpre).mono ?_
    rintro e w' ⟨v,rfl,hr,hb⟩
    obtain⟨n1,n2⟩:=hM.grows hb
    obtain⟨r1,r2⟩:=MN (E:=E) (ρ:=ρ) (w:=w') (F:=fz w' E) (fun q hq=>hq) (QX hf hr)
    exact hq v w' E n1 n2 r2 r1
   ·obtain⟨E1,m1,m2,m3⟩:=NP ha hv1 hM hw hk
    refine(hC c (lg ..) (fz w E1) w _ x (fun q hq=>hq.1.1) m3 hpre).mono ?_
    rintro e w' ⟨v,rfl,hr,hb⟩
    obtain⟨n1,n2⟩:=m1.grows hb
    obtain⟨r1,r2⟩:=MN (E:=E1) (ρ:=after ρ l1) (w:=w') (fun q hq=>pV hq.2 (hq.1.elim (fun h=>h.1.2) (fun h=>m1.base q (.inr (jc m1.below.size h)))) (fun r j e=>by
     rcases hq.1 with h|h
     ·exact qE h r j e
     ·have:=m1.lt e;omega)) hr
    exact hq v w' E1 n1 (m2.trans n2) r2 r1
  ·exact ih (fun c hc=>hC c (jw _ hc)) h
theorem ZN:∀ {ks:List K} {l:List K0} {vs:List Value},BJ ks=some l->(∀ k ∈ ks,k.wf ρ)->jZ (fun k v=>K.holds E ρ w k v) ks vs->kH (fz w E) E ρ w l vs/\∀ k ∈ l,EW ρ k
 | [],l,vs,h,hw,hk=>by
  simp only[BJ,aj] at h
  subst h
  cases hk
  exact⟨rfl,fun k hk=>by cases hk⟩
 | k::ks,l,vs,h,hw,hk=>by
  cases hk
  rename_i v vs hv hvs
  have step:∀ k0 l',k0K k0=k->BJ ks=some l'->l=k0::l'->kH (fz w E) E ρ w l (v::vs)/\∀ k ∈ l,EW ρ k:=fun k0 l' e1 e2 e3=>by
   obtain⟨i1,i2⟩:=ZN e2 (fun k hk=>hw k (jw _ hk)) hvs
   subst e3
   refine⟨⟨v,vs,rfl,uX.2 (by rw[e1];exact hv),i1⟩,fun k' hk'=>?_⟩
   rcases qp.1 hk' with rfl|hk'
   ·exact PL.2 (by rw[e1];exact hw k (lg ..))
   ·exact i2 k' hk'
  cases k<;>try (simp[BJ] at h;done)
  ·simp only[BJ] at h
   split at h<;>try(cases h;done)
   simp only[jq] at h
   obtain⟨l',h1,h2⟩:=h
   exact step _ l' rfl h1 h2.symm
  all_goals
   simp only[BJ,jq] at h
   obtain⟨l',h1,h2⟩:=h
   exact step _ l' rfl h1 h2.symm
theorem a3T:∀ {l:List K0} {ds:List Value},kH (fz w E) E ρ w l ds->jZ (fun k v=>K.holds E ρ w k v) (l.map k0K) ds
 | [],ds,h=>by rw[show ds=[] from h];exact .nil
 | k::l,ds,⟨v,vs',e1,e2,e3⟩=>by rw[e1];exact .cons (uX.1 e2) (a3T e3)
theorem a5c {C:FuncId->List At->List Ctr} (hC:∀ g ts,∀ c ∈ C g ts,aI P g c) {k:Operand->K} {a:Act} {o:Oper} {vc:List Cd} {kk:K} {l:List (Nat × Res)} (h:tK P C ρ k o.op=some (vc,kk,l)) (hv:dK vc) (hM:Mem E ρ W w) (hw:∀ x,(k x).wf ρ) (hk:∀ x,(k x).holds E ρ w (a.eval x)):zK P E ρ W w o a kk l:=by
 cases ho:o.op<;>rw[ho] at h<;>try (simp[tK] at h;done)
 case makeFunc fn first caps =>
  cases fn<;>try (simp[tK] at h;done)
  rename_i g
  simp only[tK] at h
  split at h<;>try(cases h;done)
  rename_i hf
  have hf:first=#[]:=by simpa using hf
  subst hf
  have ha:jZ (fun k v=>K.holds E ρ w k v) (caps.toList.map k) (caps.toList.map a.eval):=by
   generalize caps.toList=cl
   induction cl with
   | nil=>exact .nil
   | cons x xs ih=>exact .cons (hk x) ih
  have harr:caps.map a.eval=(caps.toList.map a.eval).toArray:=by apply Dh;simp
  split at h
  ·rename_i p h1
   simp only[aj,bf] at h
   obtain⟨_,rfl,rfl⟩:=h
   have hr:=a3i h1 ha
   refine dP.steps (dP.of (s:=Instr.makeFunc (.func g) ((#[]:Array Operand).map a.eval) (caps.map a.eval)) (by simp only[execOp,ho]) ⟨.func (.func g) #[] (caps.map a.eval),w,E,by simp[Instr.makeFunc],hM,Ext.refl _ _ _,trivial,[.func (.func g) #[] (caps.map a.eval)],rfl,caps.toList.map a.eval,by rw[harr],hr⟩)
  ·simp only[jq,bf] at h
   obtain⟨l0,h1,_,rfl,rfl⟩:=h
   obtain⟨r1,r2⟩:=ZN h1 (fun k9 hk9=>by obtain⟨q,_,rfl⟩:=qm.1 hk9;exact hw q) ha
   exact dP.steps (dP.of (s:=Instr.makeFunc (.func g) ((#[]:Array Operand).map a.eval) (caps.map a.eval)) (by simp only[execOp,ho]) ⟨.func (.func g) #[] (caps.map a.eval),w,E,by simp[Instr.makeFunc],hM,Ext.refl _ _ _,r2,caps.toList.map a.eval,by rw[harr],r1⟩)
 case call c =>
  obtain⟨cl,xs,ts⟩:=c
  cases cl<;>try (simp[tK] at h;done)
  rename_i f
  simp only[tK] at h
  have a1Q:=hk f
  have c0r:=hw f
  have key:∀ {g:FuncId} {ks:List K} {ds:List Value},a.eval f=.func (.func g) #[] ds.toArray->IL P g=true->BI ρ (xs.toList.map k++ks) (C g ((xs.toList.map k++ks).map b2k))=some (vc,kk,l)->(∀ k ∈ ks,k.wf ρ)->jZ (fun k v=>K.holds E ρ w k v) ks ds->zK P E ρ W w o a kk l:=by
   intro g ks ds hfv he hcl hws hks
   have ha:jZ (fun k v=>K.holds E ρ w k v) (xs.toList.map k++ks) (xs.toList.map a.eval++ds):=by
    generalize xs.toList=cl
    induction cl with
    | nil=>exact hks
    | cons x xs ih=>exact .cons (hk x) ih
   intro next Q hn
   have hrun:(execOp a.eval o).run P w=.ok (.enter g ((xs.toList.map a.eval++ds).toArray)) w:=by
    have:(xs.map a.eval++ds.toArray)=(xs.toList.map a.eval++ds).toArray:=by apply Dh;simp
    simp only[execOp,ho,resolve,Deferred.ofValue,hfv,jk,Sem.run_pure,Result.andThen_ok,invoke]
    rw[<-this]
    simp only[Array.empty_append]
    exact TL he
   unfold Oper.wp
   rw[hrun,Oper.upon_enter]
   refine(a6P (fun c hc=>hC g _ c hc) hcl hv hM (fun k9 hk9=>?_) ha (Q:=fun e w'=>∃ v,e=.returned v/\next (a.put o.dst v) w') (fun v w' E' m1 m2 m3 m4=>⟨v,rfl,hn v w' E' m1 m2 m3 m4⟩)).mono ?_
   ·rcases ug.1 hk9 with hk9|hk9
    ·obtain⟨q,_,rfl⟩:=qm.1 hk9;exact hw q
    ·exact hws k9 hk9
   ·rintro e w' ⟨v,rfl,h⟩
    exact h
  split at h<;>try(cases h;done)
  ·rename_i g t cx hkf
   split at h<;>try(cases h;done)
   rename_i he
   simp only[au] at he
   rw[hkf] at a1Q
   obtain⟨cs,hfv,ds,hcs,hrep⟩:=a1Q
   have hfv:a.eval f=.func (.func g) #[] ds.toArray:=by rw[hfv,hcs];rfl
   obtain⟨c1,c2⟩:=WX (E:=E) (ρ:=ρ) t cx ds he.2 hrep (fun q h=>h)
   exact key hfv he.1 h c2 c1
  ·rename_i g l0 hkf
   split at h<;>try(cases h;done)
   rename_i he
   rw[hkf] at a1Q c0r
   obtain⟨ds,hfv,hrep⟩:=a1Q
   exact key hfv he h (fun k9 hk9=>by
    obtain⟨q,hq,rfl⟩:=qm.1 hk9
    exact PL.1 (c0r q hq)) (a3T hrep)
end
end
end Go.Proofs.YtbkocjmmbkifjaaGreat
