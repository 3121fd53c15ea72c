/-
  Lemmas for the theorem vstations28_holds, part 13 of 34.
-/
import Derived.Test.YtbkocjmmbkifjaaGreatQs12
namespace Go.Proofs.YtbkocjmmbkifjaaGreat
open Go Go.RowKit
section
set_option linter.unusedSimpArgs false
set_option linter.unusedVariables false
def yU (ρ:Nat->Res):(ts:List Ty)->List K->Option (List Cd × (nest ts).den × List (Nat × Res))
 | [],[]=>some ([],(),[])
 | t::ts,k::ks=>match vJ ρ (some t) k with
  | some (p,l)=>match jL p.t t,yU (after ρ l) ts ks with
   | some q,some (vc,x,l')=>some (q.c p.x++vc,(q.f p.x,x),l++l')
   | _,_=>none
  | none=>none
 | _,_=>none
def VI:(t:Ty)->t.den->List K
 | .pair a b,x=>.val a x.1::VI b x.2
 | _,_=>[]
def vZ:Ty->Bool
 | .pair a b=>!a.agg&&vZ b
 | .unit=>true
 | _=>false
def a6Y:List K->Option Part
 | []=>some ⟨.unit,()⟩
 | .val t x::ks=>if t.agg then none else (a6Y ks).map fun p=>⟨.pair t p.t,(x,p.x)⟩
 | _=>none
def KP (P:Program) (g:FuncId):Bool:=match P.funcs[g]? with
 | some fn=>!(fn.name == "runtime.NumGoroutine")&&!fn.body.isNone
 | none=>false
def EG:List K->Option (List K0)
 | []=>some []
 | .val t x::ks=>if t.agg then none else (EG ks).map fun l=>.val t x::l
 | .ptr r o::ks=>(EG ks).map fun l=>.ptr r o::l
 | .lQ r::ks=>(EG ks).map fun l=>.lQ r::l
 | _=>none
def Ty.free:Ty->Bool
 | .bool=>true
 | .int _=>true
 | .lf _=>true
 | .arr _ t=>t.free
 | .pair a b=>a.free&&b.free
 | .unit=>true
 | _=>false
def rowsOf {α:Type} (ids:Option (List Nat)) (xss:List (List α)):List (List α):=match ids with
 | none=>xss
 | some l=>l.map (rowAt xss)
def c3f:Option Ty->Bool
 | some (.nls _)=>true
 | _=>false
def uK (ρ:Nat->Res) (t:Option Ty):K->Option Part
 | .val t x=>some ⟨t,x⟩
 | .nil=>match t with
  | some (.list u)=>some ⟨.list u,[]⟩
  | some (.nls u)=>some ⟨.nls u,none⟩
  | _=>none
 | .own r v=>match ρ r with
  | .row _ u xs v'=>if gv v=gv v' then (if c3f t&&v'%2==1 then some ⟨.nls u,some xs⟩ else some ⟨.list u,xs⟩) else none
  | .fro t xs v'=>if gv v=gv v' then some ⟨.list t,xs⟩ else none
  | .mat _ _ t ids xss v'=>if gv v=gv v' then some ⟨.list (.list t),rowsOf ids xss⟩ else none
  | _=>none
 | .mrow r v i=>match ρ r with
  | .mat _ _ t _ xss v'=>if v=v' then some ⟨.list t,rowAt xss i⟩ else none
  | _=>none
 | _=>none
def c3s (p:Part):Part:=⟨.ref p.t,p.x⟩
def b6z (t:Option Ty) (ps:List Part) (o:Nat):Option Part:=match t,NG ps o with
 | some (.ref u),some (_,qs)=>(pack u qs).map fun p=>c3s p.1
 | _,_=>none
def EO (ρ:Nat->Res) (t:Option Ty):K->Option Part
 | .ptr r o=>match ρ r with
  | .box ps=>b6z t ps o
  | _=>none
 | .lQ r=>match ρ r with
  | .kF k=>match t with
   | some (.ref u)=>(uK ρ (some u) k).map c3s
   | _=>none
  | _=>none
 | k=>uK ρ t k
def gK (ρ:Nat->Res):Ty->List K0->Option Part
 | .unit,[]=>some ⟨.unit,()⟩
 | .pair a b,k::ks=>match EO ρ (some a) (k0K k),gK ρ b ks with
  | some p,some q=>if p.t.agg then none else some ⟨.pair p.t q.t,(p.x,q.x)⟩
  | _,_=>none
 | _,_=>none
def c4E (g:Nat) (p:Part):Part:=⟨.clo g p.t,p.x⟩
def VG (ρ:Nat->Res) (t:Ty):K->Option Part
 | .fn g ks=>match t with
  | .clo _ u=>(gK ρ u ks).map (c4E g)
  | _=>none
 | k=>EO ρ (some t) k
def mM (ρ:Nat->Res):(ts:List Ty)->List K->Option (List Cd × (nest ts).den)
 | [],[]=>some ([],())
 | t::ts,k::ks=>match VG ρ t k with
  | some p=>match jL p.t t,mM ρ ts ks with
   | some q,some (vc,x)=>some (q.c p.x++vc,(q.f p.x,x))
   | _,_=>none
  | none=>none
 | _,_=>none
def c2B (c:Ctr):Bool:=c.res.all Ty.free
def a6H {α:Type} (a:List Cd × α):List Cd × α × List (Nat × Res):=(a.1,a.2,[])
def a1v (ρ:Nat->Res) (c:Ctr) (ks:List K):Option (List Cd × (nest c.args).den × List (Nat × Res)) :=
 orC (if c2B c then (mM ρ c.args ks).map a6H else none) (yU ρ c.args ks)
def b5P (c:Ctr) (a:List Cd × (nest c.args).den × List (Nat × Res)):List Cd × K × List (Nat × Res):=(a.1++([⟨c.pre a.2.1,(c.dec a.2.1).d⟩]:List Cd),b1R c.res (c.fn a.2.1),a.2.2)
def EF (ρ:Nat->Res) (ks:List K):List Ctr->MK
 | []=>none
 | c::cs=>match a1v ρ c ks with
  | some a=>some (b5P c a)
  | none=>EF ρ ks cs
def b4o:K->At
 | .val t _=>.ty t
 | .fn g _=>.fn g
 | _=>.no
def vK (P:Program) (C:FuncId->List At->List Ctr) (ρ:Nat->Res) (k:Operand->K):Op->MK
 | .makeFunc (.func g) first caps=>if first.isEmpty then (match a6Y (caps.toList.map k) with
  | some p=>some ([],.val (.clo g p.t) p.x,[])
  | none=>(EG (caps.toList.map k)).map fun l=>([],.fn g l,[])) else none
 | .call { callee:=.value f,args:=xs,argTypes:=_ }=>match k f with
  | .val (.clo g t) cx=>if KP P g&&vZ t then EF ρ (xs.toList.map k++VI t cx) (C g ((xs.toList.map k++VI t cx).map b4o)) else none
  | .fn g l=>if KP P g then EF ρ (xs.toList.map k++l.map k0K) (C g ((xs.toList.map k++l.map k0K).map b4o)) else none
  | _=>none
 | _=>none
section
variable {P:Program} {E:Env} {ρ:Nat->Res} {W w:World}
theorem QG:∀ {ts:List Ty} {ks:List K} {ρ:Nat->Res} {E:Env} {vc:List Cd} {x:(nest ts).den} {l:List (Nat × Res)} {vs:List Value},yU ρ ts ks=some (vc,x,l)->dJ vc->Mem E ρ W w->(∀ k ∈ ks,k.wf ρ)->kK (fun k v=>K.holds E ρ w k v) ks vs ->
  ∃ E',Mem E' (after ρ l) W w/\Ext E ρ w E' (after ρ l) w/\iO (fz w E') w ts vs x
 | [],[],ρ,E,vc,x,l,vs,h,hv,hM,hw,hk=>by
  simp only[yU,ak,dh] at h
  obtain⟨_,_,rfl⟩:=h
  cases hk
  exact⟨E,hM,Ext.refl _ _ _,rfl⟩
 | [],_::_,ρ,E,vc,x,l,vs,h,hv,hM,hw,hk=>by simp[yU] at h
 | _::_,[],ρ,E,vc,x,l,vs,h,hv,hM,hw,hk=>by simp[yU] at h
 | t::ts,k::ks,ρ,E,vc,x,l,vs,h,hv,hM,hw,hk=>by
  simp only[yU] at h
  split at h<;>try(cases h;done)
  rename_i p l1 h1
  split at h<;>try(cases h;done)
  rename_i q vc2 x2 l2 hq h2
  simp only[ak,dh] at h
  obtain⟨rfl,rfl,rfl⟩:=h
  cases hk
  rename_i v vs hv1 hvs
  obtain⟨E1,m1,m2,m3⟩:=mP h1 hM (hw k (mg ..)) hv1
  have b7p:kK (fun k v=>K.holds E1 (after ρ l1) w k v) ks vs:=by
   have hw':∀ k ∈ ks,k.wf ρ:=fun k hk=>hw k (ku _ hk)
   clear h2 hw
   induction hvs with
   | nil=>exact .nil
   | cons a b ih=>exact .cons (m2.holds _ _ (hw' _ (mg ..)) a) (ih (fun k hk=>hw' k (ku _ hk)))
  obtain⟨hva,hvb⟩:=dB.1 hv
  obtain⟨E2,n1,n2,n3⟩:=QG h2 hvb m1 (fun k hk=>m2.wf k (hw k (ku _ hk))) b7p
  refine⟨E2,by rw[fQ];exact n1,by rw[fQ];exact m2.trans n2,v,vs,rfl,?_,n3⟩
  obtain⟨cs,rfl,hr⟩:=fJ n2.fz n2.stay m3
  exact⟨cs,by unfold Ty.toV;rw[wB _ _ _ hq],uV _ _ _ hq cs _ hr hva⟩
theorem a0e {F:Nat->Prop}:(t:Ty)->(x:t.den)->(ds:List Value)->vZ t=true->rep F w t ds x->(∀ q,F q->fz w E q)->kK (fun k v=>K.holds E ρ w k v) (VI t x) ds/\∀ k ∈ VI t x,k.wf ρ
 | .pair a b,x,ds,h,⟨c1,c2,h1,h2,h3⟩,hF=>by
  simp only[vZ,au,dw] at h
  obtain⟨k1,k2⟩:=a0e b x.2 c2 h.2 h3 hF
  have hl:=dI a _ _ h2
  have hn:a.n=1:=by
   have:=h.1
   cases a<;>simp_all [Ty.agg,Ty.n]
   rename_i l;cases l<;>simp_all [Lf.agg,Lf.n]
  rw[hn] at hl
  obtain⟨v,rfl⟩:∃ v,c1=[v]:=by
   match c1,hl with
   | [v],_=>exact⟨v,rfl⟩
  refine⟨by rw[h1];exact .cons ⟨[v],by unfold Ty.toV;rw[h.1];rfl,bW hF (iP.refl _ _) a _ _ h2⟩ k1,fun k hk=>?_⟩
  rcases qh.1 hk with rfl|hk
  ·trivial
  ·exact k2 k hk
 | .unit,x,ds,h,hr,hF=>⟨by rw[show ds=[] from hr];exact .nil,fun k hk=>by cases hk⟩
 | .bool,x,ds,h,hr,hF=>by simp[vZ] at h
 | .int _,x,ds,h,hr,hF=>by simp[vZ] at h
 | .lf _,x,ds,h,hr,hF=>by simp[vZ] at h
 | .list _,x,ds,h,hr,hF=>by simp[vZ] at h
 | .arr _ _,x,ds,h,hr,hF=>by simp[vZ] at h
 | .ref _,x,ds,h,hr,hF=>by simp[vZ] at h
 | .clo _ _,x,ds,h,hr,hF=>by simp[vZ] at h
 | .nls _,x,ds,h,hr,hF=>by simp[vZ] at h
theorem a4W:∀ {ks:List K} {p:Part} {vs:List Value},a6Y ks=some p->kK (fun k v=>K.holds E ρ w k v) ks vs->rep (fz w E) w p.t vs p.x
 | [],p,vs,h,hk=>by
  simp only[a6Y,ak] at h
  subst h
  cases hk
  rfl
 | k::ks,p,vs,h,hk=>by
  cases k<;>try (simp[a6Y] at h;done)
  rename_i t x
  simp only[a6Y] at h
  split at h<;>try(cases h;done)
  rename_i ha
  simp only[jw] at h
  obtain⟨p',h1,rfl⟩:=h
  cases hk
  rename_i v vs hv hvs
  obtain⟨cs,rfl,hr⟩:=hv
  have ha:t.agg=false:=by simpa using ha
  have hl:=dI t _ _ hr
  have hn:t.n=1:=by
   cases t<;>simp_all [Ty.agg,Ty.n]
   rename_i l;cases l<;>simp_all [Lf.agg,Lf.n]
  rw[hn] at hl
  obtain⟨v,rfl⟩:∃ v,cs=[v]:=by
   match cs,hl with
   | [v],_=>exact⟨v,rfl⟩
  exact⟨[v],vs,by unfold Ty.toV;rw[ha];rfl,hr,a4W h1 hvs⟩
theorem WX {g:FuncId} {args:Array Value} (h:KP P g=true):(callFunc g args).run P w=.ok (.enter g args) w:=by
 unfold KP at h
 split at h<;>try(cases h;done)
 rename_i fn hf
 simp only[au,dw] at h
 unfold callFunc
 rw[jq]
 show (Result.ok P w).andThen _=_
 simp only[Result.andThen_ok,hf,h.1,h.2,Ad,if_false]
 rfl
theorem PN {F:Nat->Prop} {ts:List Ty} {v:Value} {y:(nest ts).den} (hF:∀ q,F q->fz w E q) (h:qH F w ts v y):(b1R ts y).holds E ρ w v/\(b1R ts y).wf ρ:=by
 match ts,y,h with
 | [t],y,h=>exact⟨fJ hF (iP.refl _ _) h,trivial⟩
 | [],y,⟨vs,h1,h2⟩=>exact⟨⟨vs,h1,jM hF (iP.refl _ _) [] vs y h2⟩,trivial⟩
 | t1::t2::ts,y,⟨vs,h1,h2⟩=>exact⟨⟨vs,h1,jM hF (iP.refl _ _) _ vs y h2⟩,trivial⟩
def BU (P:Program) (E:Env) (ρ:Nat->Res) (W w:World) (o:Oper) (a:Act) (k:K) (l:List (Nat × Res)):Prop :=
 ∀ (next:Act->World->Prop) (Q:Exit->Act->World->Prop),(∀ v w' E',Mem E' (after ρ l) W w'->Ext E ρ w E' (after ρ l) w'->k.wf (after ρ l)->k.holds E' (after ρ l) w' v->next (a.put o.dst v) w')->o.wp P a w next Q
theorem dV.steps {o:Oper} {a:Act} {k:K} {l:List (Nat × Res)} (h:dV P E ρ W w o a.eval k l):BU P E ρ W w o a k l:=by
 intro next Q hn
 obtain⟨nx,v,w',E',h1,h2,h3,h4,h5,h6⟩:=h
 unfold Oper.wp
 rw[h1]
 rcases h2 with rfl|⟨rfl,rfl⟩
 ·exact hn v w' E' h3 h4 h5 h6
 ·exact hn undef w' E' h3 h4 h5 h6
theorem oO {F F':Nat->Prop} {w:World}:(t:Ty)->t.free=true->(cs:List Value)->(x:t.den)->rep F w t cs x->rep F' w t cs x
 | .bool,_,_,_,h=>h
 | .int _,_,_,_,h=>h
 | .lf _,_,_,_,h=>h
 | .list _,hf,_,_,_=>by simp[Ty.free] at hf
 | .arr n t,hf,_,_,⟨h1,h2⟩=>⟨h1,aW (fun c y=>oO t (by simpa [Ty.free] using hf) c y) _ _ h2⟩
 | .pair a b,hf,_,_,⟨c1,c2,h1,h2,h3⟩=>by
  simp only[Ty.free,au] at hf
  exact⟨c1,c2,h1,oO a hf.1 _ _ h2,oO b hf.2 _ _ h3⟩
 | .unit,_,_,_,h=>h
 | .ref _,hf,_,_,_=>by simp[Ty.free] at hf
 | .clo _ _,hf,_,_,_=>by simp[Ty.free] at hf
 | .nls _,hf,_,_,_=>by simp[Ty.free] at hf
theorem a2Z {F F':Nat->Prop} {w:World}:(ts:List Ty)->ts.all Ty.free=true->(vs:List Value)->(x:(nest ts).den)->iO F w ts vs x->iO F' w ts vs x
 | [],_,_,_,h=>h
 | t::ts,hf,_,x,⟨v,vs',h1,⟨cs,h2,h3⟩,h4⟩=>by
  simp only[List.all_cons,au] at hf
  exact⟨v,vs',h1,⟨cs,h2,oO t hf.1 _ _ h3⟩,a2Z ts hf.2 vs' x.2 h4⟩
theorem UG {F F':Nat->Prop} {w:World} {ts:List Ty} {v:Value} {y:(nest ts).den} (hf:ts.all Ty.free=true) (h:qH F w ts v y):qH F' w ts v y:=by
 match ts,y,h with
 | [t],y,h =>
  obtain⟨cs,h1,h2⟩:=h
  exact⟨cs,h1,oO t (by simpa using hf) _ _ h2⟩
 | [],y,⟨vs,h1,h2⟩=>exact⟨vs,h1,h2⟩
 | t1::t2::ts,y,⟨vs,h1,h2⟩=>exact⟨vs,h1,a2Z _ hf vs y h2⟩
def EK (w:World) (q:Nat):Prop:=q<w.heap.size
theorem a9O {q:Nat} (h:fz w E q):EK w q:=h.1.1
theorem b7F {F:Nat->Prop} {e:TypeId} {t:Ty} {v:Value} {xs:List t.den} {cs:List Value} (h:w.ownsRow 0 e t.n v xs.length cs) (hv:iY F w (.list t) v xs) (hn:v≠.slice none 0 0):iY F w (.nls t) v (some xs):=by
 rcases h.2 with⟨h1,_⟩|⟨g,cap,cur,h1,_⟩
 ·exact absurd h1 hn
 ·obtain⟨cs',hv1,p,c,h2,h3,h4,h5⟩:=hv
  have e1:v=.slice p xs.length c:=by rw[hv1,h2];rfl
  rw[h1,Value.slice.injEq] at e1
  obtain⟨rfl,_,rfl⟩:=e1
  refine⟨cs',hv1,.inr ?_⟩
  rcases h5 with h5|⟨b,o,ds,k1,k2,k3,k4⟩
  ·exact⟨xs,g,0,cap,[],rfl,h2,h3,h4,.inl h5⟩
  ·cases k1
   exact⟨xs,g,0,cap,ds,rfl,h2,h3,h4,.inr ⟨k2,k3,k4⟩⟩
theorem ZG {F:Nat->Prop} {t:Option Ty} {k:K} {p:Part} {v:Value} (h:uK ρ t k=some p) (hM:Mem E ρ W w) (hw:k.wf ρ) (hk:k.holds E ρ w v) (hF:∀ q,fz w E q->F q) (ho:∀ r ver,k=.own r ver->∀ j g,E.has r j g->F g) (hm:∀ r ver i,k=.mrow r ver i->∀ g,E.has r (i+1) g->F g):iY F w p.t v p.x:=by
 have hst:=iP.refl (fz w E) w
 cases k<;>try (simp[uK] at h;done)
 case val t x =>
  simp only[uK,ak] at h
  subst h
  exact fJ hF hst hk
 case nil =>
  cases t<;>simp only[uK] at h<;>try(cases h;done)
  rename_i t
  cases t<;>simp only[ak] at h<;>try(cases h;done)
  ·subst h
   exact⟨[.slice none 0 0],hk,none,0,rfl,by simp,by omega,.inl rfl⟩
  ·subst h
   exact⟨[.slice none 0 0],hk,.inl ⟨rfl,rfl⟩⟩
 case own r ver =>
  simp only[uK] at h
  have h1:=hM.res r
  split at h<;>try(cases h;done)
  all_goals
   rename_i hr
   split at h<;>try(cases h;done)
   rename_i hv0
   have hv:v=E.sl r:=hk (by rw[hr];exact hv0.symm)
   rw[hr] at h1
   rw[hv]
  ·obtain⟨k1,k2,cs,k3,k4,k5⟩:=h1
   have hvr:=jX (E:=E) k3 (aW (fun c y=>bW hF hst _ c y) _ _ k4) (fun g hg=>ho r ver rfl 0 g (k1.trans hg))
   split at h
   ·rename_i hn
    simp only[ak] at h
    subst h
    simp only[au,jf] at hn
    exact b7F k3 hvr (k5.2 hn.2)
   ·simp only[ak] at h
    subst h
    exact hvr
  ·simp only[ak] at h
   subst h
   exact fJ hF hst h1.2
  ·simp only[ak] at h
   subst h
   rename_i e e2 t ids xss v9
   obtain⟨k1,k2,⟨cs,k3,k4,k5⟩,k6,k7,k8⟩:=h1
   have hrow:∀ i,i<xss.length->rep (F) w (.list t) [E.inn r i] (rowAt xss i):=fun i hi=>by
    obtain⟨ds,q1,q2,q3⟩:=k8 i (rowAt xss i) (getD_at _ _ _ hi)
    obtain⟨cs9,e9,r9⟩:=jX (E:=E) (F:=F) q1 (aW (fun c y=>bW hF hst t c y) _ _ q2) (fun g hg=>ho r ver rfl (i+1) g hg)
    have r8:=r9
    obtain⟨p9,c9,e8,_⟩:=r9
    have e7:cs9=[E.inn r i]:=by
     have:E.inn r i=cs9.headD undef:=e9
     rw[this,e8];rfl
    rw[<-e7];exact r8
   have key:∀ (l:List Nat),(∀ i ∈ l,i<xss.length)->chunks (rep (F) w (.list t)) (l.map (E.inn r)) (l.map (rowAt xss)):=by
    intro l
    induction l with
    | nil=>intro _;rfl
    | cons i l ih=>intro hl;exact⟨[E.inn r i],_,rfl,hrow i (hl i (mg ..)),ih (fun j hj=>hl j (ku _ hj))⟩
   have hval:rowsOf ids xss=(bJ ids xss).map (rowAt xss):=by
    cases ids with
    | some l=>rfl
    | none =>
     simp only[bJ,rowsOf]
     apply List.ext_getElem?
     intro i
     rw[xk]
     by_cases hi:i<xss.length
     ·rw[Bf hi];exact getD_at _ _ _ hi
     ·rw[xg (by omega),xg (by simpa using hi)];rfl
   show iY (F) w (.list (.list t)) (E.sl r) (rowsOf ids xss)
   rw[hval]
   refine jX (E:=E) (t:=.list t) (e:=e) (cs:=cs) ?_ (by rw[k4];exact key _ k6) (fun g hg=>ho r ver rfl 0 g (k1.trans hg))
   have e9:(bJ ids xss).length=List.length (α:=(Ty.list t).den) ((bJ ids xss).map (rowAt xss)):=(ru ..).symm
   exact e9 ▸ k3
 case mrow r ver i =>
  simp only[uK] at h
  split at h<;>try(cases h;done)
  rename_i hr
  split at h<;>try(cases h;done)
  rename_i hv
  subst hv
  simp only[ak] at h
  subst h
  have hv:v=E.inn r i:=hk (by rw[hr];rfl)
  have hi:=hw.2 (by rw[hr];rfl)
  rw[hr] at hi
  obtain⟨cs,q1,q2,q3⟩:=mG hM hr hi
  rw[hv]
  exact jX (E:=E) q1 (aW (fun c y=>bW hF hst _ c y) _ _ q2) (fun g hg=>hm r ver i rfl g hg)
theorem a3d {t:Option Ty} {k:K} {p:Part} {v:Value} (h:uK ρ t k=some p) (hM:Mem E ρ W w) (hw:k.wf ρ) (hk:k.holds E ρ w v):iY (EK w) w p.t v p.x:=ZG h hM hw hk (fun q h=>a9O h) (fun r _ _ j g hg=>hM.lt hg) (fun r _ i _ g hg=>hM.lt hg)
theorem a3c {t:Option Ty} {k:K} {p:Part} {v:Value} (h:EO ρ t k=some p) (hM:Mem E ρ W w) (hw:k.wf ρ) (hk:k.holds E ρ w v):iY (EK w) w p.t v p.x:=by
 have hF:∀ q,fz w E q->EK w q:=fun q h=>a9O h
 cases k
 case ptr r o =>
  simp only[EO] at h
  split at h<;>try(cases h;done)
  rename_i ps hr
  unfold b6z at h
  split at h<;>try(cases h;done)
  rename_i u a qs hd
  simp only[jw] at h
  obtain⟨⟨p1,p2⟩,h1,rfl⟩:=h
  have h2:=hM.res r
  rw[hr] at h2
  obtain⟨b,cs,e,k1,k3,k4⟩:=h2
  obtain⟨b',g1,g2⟩:=hk
  rw[g1] at k1;cases k1
  obtain⟨rfl,e2⟩:=sV ps o _ _ hd
  obtain⟨c1,c2,rfl,n1,n2⟩:=oC k4
  obtain⟨c3,c4,rfl,n3,n4⟩:=sG u _ _ _ _ h1 n2
  have hl:=qQ n1
  refine⟨[v],rfl,b,o,c3,by rw[g2],hM.lt (r:=r) (j:=0) g1,fun j x hx=>?_,bW hF (iP.refl _ _) _ _ _ n3.1⟩
  rw[yu _ _ _ _ _ _ k3]
  simp only[List.getElem?_toArray]
  rw[Eh (by omega),hl,e2,Dv,Ap (by have:=(ql.1 hx).1;exact this)]
  exact hx
 case lQ r =>
  simp only[EO] at h
  split at h<;>try(cases h;done)
  rename_i k9 hr
  split at h<;>try(cases h;done)
  rename_i u
  simp only[jw] at h
  obtain⟨p1,h1,rfl⟩:=h
  obtain⟨q1,q2,b,x,e,q3,q4,q5,q6⟩:=hM.kbx r k9 hr
  obtain⟨b',g1,g2⟩:=hk (by rw[hr];trivial)
  rw[g1] at q3;cases q3
  obtain⟨cs,h2,h3⟩:=a3d h1 hM q1 q6
  have hcs:cs=[x]:=by
   have hl:=dI _ _ _ h3
   have hc:=nS _ _ _ h3
   rw[<-h2] at hc
   obtain⟨_,hx⟩:=one_cell q2 q6 (fun r' ver e=>by
    rw[e] at h1
    simp only[uK] at h1
    split at h1<;>first|(cases h1;done)|skip
    all_goals
     rename_i hr9
     split at h1<;>first|(cases h1;done)|skip
     rename_i hv9
     rw[hr9];exact hv9.symm) hM
   rw[hx] at hc
   simpa using hc.symm
  subst hcs
  refine⟨[v],rfl,b,0,[x],by rw[g2],hM.lt (r:=r) (j:=0) g1,fun j u hu=>?_,h3⟩
  rw[tu,yu _ _ _ _ _ _ q4];simpa using hu
 all_goals exact a3d (by simpa only[EO] using h) hM hw hk
theorem NT:∀ {u:Ty} {ks:List K0} {p:Part} {vs:List Value},gK ρ u ks=some p->Mem E ρ W w->(∀ k ∈ ks,IK ρ k)->kW (fz w E) E ρ w ks vs->rep (EK w) w p.t vs p.x
 | .unit,[],p,vs,h,hM,hw,hk=>by
  simp only[gK,ak] at h
  subst h
  exact hk
 | .pair a b,k::ks,p,vs,h,hM,hw,⟨v,vs',e1,e2,e3⟩=>by
  simp only[gK] at h
  split at h<;>try(cases h;done)
  rename_i p1 q1 h1 h2
  split at h<;>try(cases h;done)
  rename_i hag
  simp only[ak] at h
  subst h
  have ih:=NT h2 hM (fun k hk=>hw k (ku _ hk)) e3
  obtain⟨cs,h3,h4⟩:=a3c h1 hM (SI.1 (hw k (mg ..))) (wJ.1 e2)
  have hag:p1.t.agg=false:=by simpa using hag
  have hl:=dI _ _ _ h4
  have hn:p1.t.n=1:=by
   obtain⟨pt,px⟩:=p1
   cases pt<;>simp_all [Ty.agg,Ty.n]
   rename_i l;cases l<;>simp_all [Lf.agg,Lf.n]
  rw[hn] at hl
  match cs,hl with
  | [x],_ =>
   have:v=x:=by rw[h3];unfold Ty.toV;rw[hag];rfl
   subst this
   exact⟨[v],vs',e1,h4,ih⟩
 | .unit,_::_,p,vs,h,_,_,_=>by simp[gK] at h
 | .pair _ _,[],p,vs,h,_,_,_=>by simp[gK] at h
 | .bool,_,p,vs,h,_,_,_=>by simp[gK] at h
 | .int _,_,p,vs,h,_,_,_=>by simp[gK] at h
 | .lf _,_,p,vs,h,_,_,_=>by simp[gK] at h
 | .list _,_,p,vs,h,_,_,_=>by simp[gK] at h
 | .arr _ _,_,p,vs,h,_,_,_=>by simp[gK] at h
 | .ref _,_,p,vs,h,_,_,_=>by simp[gK] at h
 | .clo _ _,_,p,vs,h,_,_,_=>by simp[gK] at h
 | .nls _,_,p,vs,h,_,_,_=>by simp[gK] at h
theorem b2T {t:Ty} {k:K} {p:Part} {v:Value} (h:VG ρ t k=some p) (hM:Mem E ρ W w) (hw:k.wf ρ) (hk:k.holds E ρ w v):iY (EK w) w p.t v p.x:=by
 cases k
 case fn g ks =>
  simp only[VG] at h
  split at h<;>try(cases h;done)
  simp only[jw] at h
  obtain⟨p1,h1,rfl⟩:=h
  obtain⟨vs,rfl,h2⟩:=hk
  exact⟨[.func (.func g) #[] vs.toArray],rfl,vs,rfl,NT h1 hM hw h2⟩
 all_goals exact a3c (by simpa only[VG] using h) hM hw hk
theorem BK:∀ {ts:List Ty} {ks:List K} {vc:List Cd} {x:(nest ts).den} {vs:List Value},mM ρ ts ks=some (vc,x)->dJ vc->Mem E ρ W w->(∀ k ∈ ks,k.wf ρ)->kK (fun k v=>K.holds E ρ w k v) ks vs->iO (EK w) w ts vs x
 | [],[],vc,x,vs,h,hv,hM,hw,hk=>by cases hk;rfl
 | [],_::_,vc,x,vs,h,hv,hM,hw,hk=>by simp[mM] at h
 | _::_,[],vc,x,vs,h,hv,hM,hw,hk=>by simp[mM] at h
 | t::ts,k::ks,vc,x,vs,h,hv,hM,hw,hk=>by
  simp only[mM] at h
  split at h<;>try(cases h;done)
  rename_i p h1
  split at h<;>try(cases h;done)
  rename_i q vc2 x2 hq h2
  simp only[ak,dh] at h
  obtain⟨rfl,rfl⟩:=h
  cases hk
  rename_i v vs hv1 hvs
  obtain⟨hva,hvb⟩:=dB.1 hv
  obtain⟨cs,rfl,hr⟩:=b2T h1 hM (hw k (mg ..)) hv1
  exact⟨_,vs,rfl,⟨cs,by unfold Ty.toV;rw[wB _ _ _ hq],uV _ _ _ hq cs _ hr hva⟩,BK h2 hvb hM (fun k hk=>hw k (ku _ hk)) hvs⟩
theorem a8L {cs:List Ctr} {g:FuncId} (hC:∀ c ∈ cs,aI P g c) {ks:List K} {vs:List Value} {vc:List Cd} {kk:K} {l:List (Nat × Res)} (h:EF ρ ks cs=some (vc,kk,l)) (hv:dJ vc) (hM:Mem E ρ W w) (hw:∀ k ∈ ks,k.wf ρ) (hk:kK (fun k v=>K.holds E ρ w k v) ks vs)
  {Q:Ending->World->Prop} (hq:∀ v w' E',Mem E' (after ρ l) W w'->Ext E ρ w E' (after ρ l) w'->kk.wf (after ρ l)->kk.holds E' (after ρ l) w' v->Q (.returned v) w'):Calls P g vs.toArray w Q:=by
 induction cs with
 | nil=>simp[EF] at h
 | cons c cs ih =>
  simp only[EF] at h
  split at h
  ·rename_i a ha
   simp only[ak] at h
   obtain⟨vc1,x,l1⟩:=a
   simp only[b5P,dh] at h
   obtain⟨rfl,rfl,rfl⟩:=h
   obtain⟨hv1,hpre,_⟩:=dB.1 hv
   unfold a1v at ha
   rcases xK ha with hb|ha
   ·split at hb<;>first|(cases hb;done)|skip
    rename_i hf
    simp only[jw] at hb
    obtain⟨⟨vc2,x2⟩,hb9,e9⟩:=hb
    simp only[a6H,dh] at e9
    obtain⟨rfl,rfl,rfl⟩:=e9
    refine(hC c (mg ..) (EK w) w _ x2 (fun q hq=>hq) (BK hb9 hv1 hM hw hk) hpre).mono ?_
    rintro e w' ⟨v,rfl,hr,hb⟩
    obtain⟨n1,n2⟩:=hM.grows hb
    obtain⟨r1,r2⟩:=PN (E:=E) (ρ:=ρ) (w:=w') (F:=fz w' E) (fun q hq=>hq) (UG hf hr)
    exact hq v w' E n1 n2 r2 r1
   ·obtain⟨E1,m1,m2,m3⟩:=QG ha hv1 hM hw hk
    refine(hC c (mg ..) (fz w E1) w _ x (fun q hq=>hq.1.1) m3 hpre).mono ?_
    rintro e w' ⟨v,rfl,hr,hb⟩
    obtain⟨n1,n2⟩:=m1.grows hb
    obtain⟨r1,r2⟩:=PN (E:=E1) (ρ:=after ρ l1) (w:=w') (fun q hq=>qW hq.2 (hq.1.elim (fun h=>h.1.2) (fun h=>m1.base q (.inr (iq m1.below.size h)))) (fun r j e=>by
     rcases hq.1 with h|h
     ·exact rJ h r j e
     ·have:=m1.lt e;omega)) hr
    exact hq v w' E1 n1 (m2.trans n2) r2 r1
  ·exact ih (fun c hc=>hC c (ku _ hc)) h
theorem a1z:∀ {ks:List K} {l:List K0} {vs:List Value},EG ks=some l->(∀ k ∈ ks,k.wf ρ)->kK (fun k v=>K.holds E ρ w k v) ks vs->kW (fz w E) E ρ w l vs/\∀ k ∈ l,IK ρ k
 | [],l,vs,h,hw,hk=>by
  simp only[EG,ak] at h
  subst h
  cases hk
  exact⟨rfl,fun k hk=>by cases hk⟩
 | k::ks,l,vs,h,hw,hk=>by
  cases hk
  rename_i v vs hv hvs
  have step:∀ k0 l',k0K k0=k->EG ks=some l'->l=k0::l'->kW (fz w E) E ρ w l (v::vs)/\∀ k ∈ l,IK ρ k:=fun k0 l' e1 e2 e3=>by
   obtain⟨i1,i2⟩:=a1z e2 (fun k hk=>hw k (ku _ hk)) hvs
   subst e3
   refine⟨⟨v,vs,rfl,wJ.2 (by rw[e1];exact hv),i1⟩,fun k' hk'=>?_⟩
   rcases qh.1 hk' with rfl|hk'
   ·exact SI.2 (by rw[e1];exact hw k (mg ..))
   ·exact i2 k' hk'
  cases k<;>try (simp[EG] at h;done)
  ·simp only[EG] at h
   split at h<;>try(cases h;done)
   simp only[jw] at h
   obtain⟨l',h1,h2⟩:=h
   exact step _ l' rfl h1 h2.symm
  all_goals
   simp only[EG,jw] at h
   obtain⟨l',h1,h2⟩:=h
   exact step _ l' rfl h1 h2.symm
theorem a5I:∀ {l:List K0} {ds:List Value},kW (fz w E) E ρ w l ds->kK (fun k v=>K.holds E ρ w k v) (l.map k0K) ds
 | [],ds,h=>by rw[show ds=[] from h];exact .nil
 | k::l,ds,⟨v,vs',e1,e2,e3⟩=>by rw[e1];exact .cons (wJ.1 e2) (a5I e3)
theorem a6U {C:FuncId->List At->List Ctr} (hC:∀ g ts,∀ c ∈ C g ts,aI P g c) {k:Operand->K} {a:Act} {o:Oper} {vc:List Cd} {kk:K} {l:List (Nat × Res)} (h:vK P C ρ k o.op=some (vc,kk,l)) (hv:dJ vc) (hM:Mem E ρ W w) (hw:∀ x,(k x).wf ρ) (hk:∀ x,(k x).holds E ρ w (a.eval x)):BU P E ρ W w o a kk l:=by
 cases ho:o.op<;>rw[ho] at h<;>try (simp[vK] at h;done)
 case makeFunc fn first caps =>
  cases fn<;>try (simp[vK] at h;done)
  rename_i g
  simp only[vK] at h
  split at h<;>try(cases h;done)
  rename_i hf
  have hf:first=#[]:=by simpa using hf
  subst hf
  have ha:kK (fun k v=>K.holds E ρ w k v) (caps.toList.map k) (caps.toList.map a.eval):=by
   generalize caps.toList=cl
   induction cl with
   | nil=>exact .nil
   | cons x xs ih=>exact .cons (hk x) ih
  have harr:caps.map a.eval=(caps.toList.map a.eval).toArray:=by apply Dk;simp
  split at h
  ·rename_i p h1
   simp only[ak,dh] at h
   obtain⟨_,rfl,rfl⟩:=h
   have hr:=a4W h1 ha
   refine dV.steps (dV.of (s:=Instr.makeFunc (.func g) ((#[]:Array Operand).map a.eval) (caps.map a.eval)) (by simp only[execOp,ho]) ⟨.func (.func g) #[] (caps.map a.eval),w,E,by simp[Instr.makeFunc],hM,Ext.refl _ _ _,trivial,[.func (.func g) #[] (caps.map a.eval)],rfl,caps.toList.map a.eval,by rw[harr],hr⟩)
  ·simp only[jw,dh] at h
   obtain⟨l0,h1,_,rfl,rfl⟩:=h
   obtain⟨r1,r2⟩:=a1z h1 (fun k9 hk9=>by obtain⟨q,_,rfl⟩:=uw.1 hk9;exact hw q) ha
   exact dV.steps (dV.of (s:=Instr.makeFunc (.func g) ((#[]:Array Operand).map a.eval) (caps.map a.eval)) (by simp only[execOp,ho]) ⟨.func (.func g) #[] (caps.map a.eval),w,E,by simp[Instr.makeFunc],hM,Ext.refl _ _ _,r2,caps.toList.map a.eval,by rw[harr],r1⟩)
 case call c =>
  obtain⟨cl,xs,ts⟩:=c
  cases cl<;>try (simp[vK] at h;done)
  rename_i f
  simp only[vK] at h
  have a3F:=hk f
  have c3d:=hw f
  have key:∀ {g:FuncId} {ks:List K} {ds:List Value},a.eval f=.func (.func g) #[] ds.toArray->KP P g=true->EF ρ (xs.toList.map k++ks) (C g ((xs.toList.map k++ks).map b4o))=some (vc,kk,l)->(∀ k ∈ ks,k.wf ρ)->kK (fun k v=>K.holds E ρ w k v) ks ds->BU P E ρ W w o a kk l:=by
   intro g ks ds hfv he hcl hws hks
   have ha:kK (fun k v=>K.holds E ρ w k v) (xs.toList.map k++ks) (xs.toList.map a.eval++ds):=by
    generalize xs.toList=cl
    induction cl with
    | nil=>exact hks
    | cons x xs ih=>exact .cons (hk x) ih
   intro next Q hn
   have hrun:(execOp a.eval o).run P w=.ok (.enter g ((xs.toList.map a.eval++ds).toArray)) w:=by
    have:(xs.map a.eval++ds.toArray)=(xs.toList.map a.eval++ds).toArray:=by apply Dk;simp
    simp only[execOp,ho,resolve,Deferred.ofValue,hfv,jq,Sem.run_pure,Result.andThen_ok,invoke]
    rw[<-this]
    simp only[Array.empty_append]
    exact WX he
   unfold Oper.wp
   rw[hrun,Oper.upon_enter]
   refine(a8L (fun c hc=>hC g _ c hc) hcl hv hM (fun k9 hk9=>?_) ha (Q:=fun e w'=>∃ v,e=.returned v/\next (a.put o.dst v) w') (fun v w' E' m1 m2 m3 m4=>⟨v,rfl,hn v w' E' m1 m2 m3 m4⟩)).mono ?_
   ·rcases um.1 hk9 with hk9|hk9
    ·obtain⟨q,_,rfl⟩:=uw.1 hk9;exact hw q
    ·exact hws k9 hk9
   ·rintro e w' ⟨v,rfl,h⟩
    exact h
  split at h<;>try(cases h;done)
  ·rename_i g t cx hkf
   split at h<;>try(cases h;done)
   rename_i he
   simp only[au] at he
   rw[hkf] at a3F
   obtain⟨cs,hfv,ds,hcs,hrep⟩:=a3F
   have hfv:a.eval f=.func (.func g) #[] ds.toArray:=by rw[hfv,hcs];rfl
   obtain⟨c1,c2⟩:=a0e (E:=E) (ρ:=ρ) t cx ds he.2 hrep (fun q h=>h)
   exact key hfv he.1 h c2 c1
  ·rename_i g l0 hkf
   split at h<;>try(cases h;done)
   rename_i he
   rw[hkf] at a3F c3d
   obtain⟨ds,hfv,hrep⟩:=a3F
   exact key hfv he h (fun k9 hk9=>by
    obtain⟨q,hq,rfl⟩:=uw.1 hk9
    exact SI.1 (c3d q hq)) (a5I hrep)
end
end
end Go.Proofs.YtbkocjmmbkifjaaGreat
