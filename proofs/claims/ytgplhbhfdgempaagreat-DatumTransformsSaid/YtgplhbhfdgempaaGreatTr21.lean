/-
  Lemmas for the theorem vtransforms_holds, part 21 of 39.
-/
import Derived.Test.YtgplhbhfdgempaaGreatTr20
namespace Go.Proofs.YtgplhbhfdgempaaGreat
open Go Go.RowKit
section
set_option linter.unusedSimpArgs false
set_option linter.unusedVariables false
set_option maxRecDepth 20000
def lkP:(k:LK)->k.ty.den->Nat->Res->Prop
 | .row e t,y,v,.row e' t' xs v'=>match jE (.list t') (.list t) xs with
  | some ys=>if e'==e&&gv v'==gv v then y=ys else False
  | none=>False
 | .mat e e2 t,y,v,.mat e' e2' t' none xss v'=>match jE (.list (.list t')) (.list (.list t)) xss with
  | some yss=>if e'==e&&e2'==e2&&gv v'==gv v then y=yss else False
  | none=>False
 | _,_,_,_=>False
def lkG (k:LK) (y:k.ty.den) (ρ:Nat->Res) (only:Option Nat):K->Prop
 | .own r v=>if only.all (fun q=>q==r) then lkP k y v (ρ r) else False
 | _=>False
def mkP (k:LK) (y:k.ty.den) (G:Nat->K) (ρ:Nat->Res):List ResultVar->Prop
 | [.tmp s]=>lkG k y ρ none (G s)
 | _=>False
def c2l (k:LK) (y:k.ty.den) (rs:List ResultVar):Exit->Gam->Rho->Prop
 | .normal,G,R=>mkP k y (bP G) (aT R) rs
 | .ret,G,R=>mkP k y (bP G) (aT R) rs
 | _,_,_=>False
def a2P (B:Book) (k:LK) (x:k.ty.den) (G:Nat->K):(Nat->Res)->(ts:List Ty)->List ResultVar->(nest ts).den->Prop
 | ρ,[],[],_=>lkG k x ρ (some 0) (G 0)
 | ρ,t::ts,r::rs,y=>match a0O B G ρ t r with
  | some (p,l)=>match oP p.t t with
   | some q=>bY (q.c p.x)/\q.f p.x=y.1/\a2P B k x G (after ρ l) ts rs y.2
   | none=>False
  | none=>False
 | _,_,_,_=>False
def c2n (B:Book) (k:LK) (x:k.ty.den) (ts:List Ty) (rs:List ResultVar) (y:(nest ts).den):Exit->Gam->Rho->Prop
 | .normal,G,R=>a2P B k x (bP G) (aT R) ts rs y
 | .ret,G,R=>a2P B k x (bP G) (aT R) ts rs y
 | _,_,_=>False
section
variable {B:Book} {W:World}
theorem b6l {k:LK} {y:k.ty.den} {v:Nat} {x:Res} (h:lkP k y v x):∃ v0,x=k.res y v0/\Res.isRow v x:=by
 cases k with
 | row e t =>
  cases x<;>first|exact h.elim|skip
  rename_i e' t' xs v'
  simp only[lkP] at h
  split at h<;>first|exact h.elim|skip
  rename_i ys hc
  split at h<;>first|exact h.elim|skip
  rename_i hb
  simp only[ak,ji] at hb
  obtain⟨rfl,hb⟩:=hb
  obtain⟨e9,hc⟩:=fC hc
  simp only[Ty.list.injEq] at e9
  subst e9
  have hc:xs=ys:=hc
  subst hc
  subst h
  exact⟨v',rfl,hb⟩
 | mat e e2 t =>
  cases x<;>first|exact h.elim|skip
  rename_i e' e2' t' ids xss v'
  cases ids<;>first|exact h.elim|skip
  simp only[lkP] at h
  split at h<;>first|exact h.elim|skip
  rename_i yss hc
  split at h<;>first|exact h.elim|skip
  rename_i hb
  simp only[ak,ji] at hb
  obtain⟨⟨rfl,rfl⟩,hb⟩:=hb
  obtain⟨e9,hc⟩:=fC hc
  simp only[Ty.list.injEq] at e9
  subst e9
  have hc:xss=yss:=hc
  subst hc
  subst h
  exact⟨v',rfl,hb⟩
theorem b0j {k:LK} {y:k.ty.den} {ρ:Nat->Res} {o:Option Nat} {k0:K} {E:Env} {w:World} {v:Value} (h:lkG k y ρ o k0) (hk:k0.holds E ρ w v):∃ r v0,o.all (fun q=>q==r)=true/\ρ r=k.res y v0/\v=E.sl r:=by
 cases k0<;>first|exact h.elim|skip
 rename_i r ver
 simp only[lkG] at h
 split at h<;>first|exact h.elim|skip
 rename_i ho
 obtain⟨v0,h1,h2⟩:=b6l h
 exact⟨r,v0,ho,h1,hk h2⟩
theorem a6r {G:Nat->K} {w:World} {a:Act} {k:LK} {x:k.ty.den}:∀ {ts:List Ty} {rs:List ResultVar} {y:(nest ts).den} {ρ:Nat->Res} {E:Env},a2P B k x G ρ ts rs y->Mem E ρ W w->Fits E ρ w B a G ->
  ∃ vs E' ρ' v0,lY (fun r v=>(DI B.P a r).run B.P w=.ok v w) rs vs/\E'.fix=E.fix/\Mem E' ρ' W w/\jT (fz w E') w ts vs y/\ρ' 0=k.res x v0/\a.eval (.tmp 0)=E'.sl 0/\∀ q,fz w E q->fz w E' q
 | [],[],y,ρ,E,h,hM,hf=>by
  obtain⟨r,v0,h1,h2,h3⟩:=b0j h (hf.holds 0)
  have h1:0=r:=by simpa using h1
  subst h1
  exact⟨[],E,ρ,v0,.nil,rfl,hM,rfl,h2,h3,fun _ h=>h⟩
 | t::ts,r::rs,y,ρ,E,h,hM,hf=>by
  simp only[a2P] at h
  split at h<;>first|exact h.elim|skip
  rename_i p l h1
  split at h<;>first|exact h.elim|skip
  rename_i q hq
  obtain⟨hc,hy,h2⟩:=h
  obtain⟨v,E1,k1,m1,m2,m3⟩:=YI h1 hM hf
  obtain⟨vs,E2,ρ2,v0,j1,j2,j5,j3,j6,j7,j4⟩:=a6r h2 m1 ⟨hf.size,hf.defers,fun s=>m2.wf _ (hf.wf s),fun s=>m2.holds _ _ (hf.wf s) (hf.holds s),fun s hs=>by rw[m2.par];exact hf.par s hs⟩
  refine⟨v::vs,E2,ρ2,v0,.cons k1 j1,j2.trans m2.fix,j5,⟨v,vs,rfl,?_,j3⟩,j6,j7,fun q hq=>j4 q (m2.fz q hq)⟩
  obtain⟨cs,rfl,hr⟩:=gW j4 (jW.refl _ _) m3
  refine⟨cs,by unfold Ty.toV;rw[wW _ _ _ hq],?_⟩
  rw[<-hy]
  exact yK _ _ _ hq cs _ hr hc
 | [],_::_,y,ρ,E,h,hM,hf=>by simp[a2P] at h
 | _::_,[],y,ρ,E,h,hM,hf=>by simp[a2P] at h
theorem QV:∀ (ts:List Ty) (x:(nest ts).den) (i s:Nat),i+ts.length<=s->bP (yI i ts x) s=.any
 | [],x,i,s,_=>rfl
 | t::ts,x,i,s,hi=>by
  simp only[List.length_cons] at hi
  simp only[yI,bP]
  rw[ig (by omega)]
  exact QV ts x.2 (i+1) s (by omega)
theorem b6v (hB:B.Ok) (hm:B.P.follows .mixedOrders=true) {f:FuncId} {fn:Func} {code:Code} {k:LK} {args:List Ty} {pre:(nest args).den->Prop} {made:(nest args).den->k.ty.den} (hf:B.P.funcs[f]?=some fn) (hb:fn.body=some code) (hN:fn.ntmps=B.N) (hkeep:B.keep=fun _=>false) (hargs:args.length<=fn.ntmps) (A:(nest args).den->List Ann)
  (h:∀ x,pre x->vwp B code (A x) (c2l k (made x) fn.results.toList) (yI 0 args x) []):NOk B.P f (.mk k args pre made):=by
 intro F w vs x hF hvs hpre
 have hl:=LG hvs
 let E:Env:=⟨fun _=>none,fun _=>undef,fun q=>F q\/w.heap.size<=q,fun _ _=>undef,fun _=>False,fun _=>undef⟩
 have hhas:∀ r j q,¬ E.has r j q:=fun r j q h=>by cases j<;>cases h
 have hFz:∀ q,F q->fz w E q:=fun q hq=>uO (hF q hq) (.inl hq) (fun r j=>hhas r j q)
 have hM:Mem E (aT []) w w:=⟨⟨rfl,rfl,rfl,aj _,fun _ _ _=>rfl⟩,fun r=>rfl,fun r j r' j' b e=>(hhas r j b e).elim,fun r j b e=>(hhas r j b e).elim,fun q hq=>hq.elim (fun h=>h.elim) .inr,fun r i _=>rfl,fun r k e=>(by cases e),fun b o n h=>h⟩
 refine calls_of_wp hf hb (wp_mono (a5d (W:=w) (base:=E.fix) hB hm code (h x hpre) ⟨E,rfl,hM,?_⟩) (fun e a w' hq=>?_))
 ·refine⟨by simp[hN];omega,rfl,fun s=>(uJ hFz 0 s hvs).1,fun s=>?_,fun s hs=>by rw[hkeep] at hs;cases hs⟩
  have h1:=(uJ (ρ:=aT []) hFz 0 s hvs).2.1 (uw _)
  rw[Nat.sub_zero] at h1
  by_cases hs:s<vs.length
  ·have:(({ tmps:=vs.toArray++Array.replicate (fn.ntmps-vs.toArray.size) undef,defers:=[] }:Act).eval (.tmp s))=vs.getD s undef:=by
    simp[Act.eval,jw,Array.getElem?_append,hs]
   rw[this];exact h1
  ·rw[QV args x 0 s (by omega)];trivial
 ·obtain⟨G',R',k1,_,E',k2,k3,k4⟩:=hq
  have fin:mkP k (made x) (bP G') (aT R') fn.results.toList->a.defers=[]/\∃ v,(results fn a.tmps).run B.P w'=.ok v w'/\∃ v' E1 ρ1 q v0,Ending.returned v=.returned v'/\Mem E1 ρ1 w w'/\(∀ q,¬ E1.qK q)/\ρ1 q=k.res (made x) v0/\v'=E1.sl q:=fun hr=>by
   match hrs:fn.results.toList,hr with
   | [.tmp s],hr =>
    obtain⟨r,v0,_,h2,h3⟩:=b0j hr (k4.holds s)
    refine⟨k4.defers,_,DK (vs:=[a.eval (.tmp s)]) (by rw[hrs];exact .cons rfl .nil),_,E',aT R',r,v0,rfl,k3,fun q=>?_,h2,h3⟩
    rw[show E'.qK=E.qK from xu Fix.qK k2]
    exact id
  cases e with
  | normal=>exact fin k1
  | ret=>exact fin k1
  | exit i=>exact k1.elim
  | goto l=>exact k1.elim
  | panic ch=>exact k1.elim
  | outgrown=>exact k1.elim
theorem b3A (hB:B.Ok) (hm:B.P.follows .mixedOrders=true) {f:FuncId} {fn:Func} {code:Code} {k:LK} {args res:List Ty} {pre:k.ty.den->(nest args).den->Prop} {out:k.ty.den->(nest args).den->k.ty.den} {g:k.ty.den->(nest args).den->(nest res).den} (hf:B.P.funcs[f]?=some fn) (hb:fn.body=some code) (hN:fn.ntmps=B.N) (hkeep:B.keep=fun s=>s==0) (hargs:args.length+1<=fn.ntmps) (A:k.ty.den->(nest args).den->List Ann)
  (h:∀ x y,pre x y->vwp B code (A x y) (c2n B k (out x y) res fn.results.toList (g x y)) ((0,.own 0 0)::yI 1 args y) [(0,k.res x 0)]):NOk B.P f (.chg k args res pre out g):=by
 intro F w s I vs x y hF hM hvs hpre
 have hl:=LG hvs
 have hR:aT [(0,k.res x 0)]=a2F (k.res x 0):=by
  funext r
  simp only[aT,a2F]
 have hhas:∀ r j q,(Env.of F w s I).has r j q->CU s I q:=fun r j q h=>by
  cases j with
  | zero =>
   have h:(if r=0 then bU s else none)=some q:=h
   split at h
   ·exact .inl h
   ·cases h
  | succ i =>
   have h:bU (if r=0 then I i else undef)=some q:=h
   split at h
   ·exact .inr ⟨i,h⟩
   ·cases h
 have hFz:∀ q,F q->fz w (Env.of F w s I) q:=fun q hq=>uO (hF q hq).1 (.inl hq) (fun r j h=>(hF q hq).2 (hhas r j q h))
 have hev:∀ q,q<(s::vs).length->(({ tmps:=(s::vs).toArray++Array.replicate (fn.ntmps-(s::vs).toArray.size) undef,defers:=[] }:Act).eval (.tmp q))=(s::vs).getD q undef:=fun q hq=>by
  simp only[Act.eval,jw,bf]
  rw[Array.getElem?_append_left (by simpa using hq)]
  simp
 refine calls_of_wp hf hb (wp_mono (a5d (W:=w) (base:=(Env.of F w s I).fix) hB hm code (h x y hpre) ⟨Env.of F w s I,rfl,by rw[hR];exact hM,?_⟩) (fun e a w' hq=>?_))
 ·refine⟨by simp[hN];omega,rfl,fun q=>?_,fun q=>?_,fun q hq=>?_⟩
  ·by_cases e:q=0
   ·subst e
    show Res.fJ 0 (aT [(0,k.res x 0)] 0)
    cases k<;>exact uw _
   ·show (bP ((0,.own 0 0)::yI 1 args y) q).wf _
    simp only[bP]
    rw[ig e]
    exact(uJ hFz 1 q hvs).1
  ·by_cases e:q=0
   ·subst e
    rw[hev 0 (by simp)]
    intro _
    rfl
   ·show (bP ((0,.own 0 0)::yI 1 args y) q).holds _ _ _ _
    simp only[bP]
    rw[ig e]
    by_cases hs:q<(s::vs).length
    ·rw[hev q hs]
     have h1:=(uJ (ρ:=aT [(0,k.res x 0)]) hFz 1 q hvs).2.1 (by omega)
     have e2:q=(q-1)+1:=by omega
     rw[e2,List.getD_cons_succ]
     rw[<-e2]
     exact h1
    ·simp only[List.length_cons] at hs
     rw[QV args y 1 q (by omega)];trivial
  ·rw[hkeep] at hq
   have hq:q=0:=by simpa using hq
   subst hq
   exact hev 0 (by simp)
 ·obtain⟨G',R',k1,_,E',k2,k3,k4⟩:=hq
  have fin:a2P B k (out x y) (bP G') (aT R') res fn.results.toList (g x y)->a.defers=[]/\∃ v,(results fn a.tmps).run B.P w'=.ok v w'/\∃ v' E1 ρ1 v0,Ending.returned v=.returned v'/\Mem E1 ρ1 w w'/\E1.base=(Env.of F w s I).base/\E1.qK=CU s I/\ρ1 0=k.res (out x y) v0/\E1.sl 0=s/\rF (fz w' E1) w' res v' (g x y):=fun hr=>by
   obtain⟨us,E2,ρ2,v0,j1,j2,j5,j3,j6,j7,_⟩:=a6r hr k3 k4
   have hp:=k4.par 0 (by rw[hkeep];rfl)
   refine⟨k4.defers,_,DK j1,_,E2,ρ2,v0,rfl,j5,xu Fix.base (j2.trans k2),xu Fix.qK (j2.trans k2),j6,?_,b1e j3⟩
   rw[<-j7,hp,show E'.par=(Env.of F w s I).par from xu Fix.par k2]
   rfl
  cases e with
  | normal=>exact fin k1
  | ret=>exact fin k1
  | exit i=>exact k1.elim
  | goto l=>exact k1.elim
  | panic ch=>exact k1.elim
  | outgrown=>exact k1.elim
end
end
set_option linter.unusedSimpArgs false
set_option linter.unusedVariables false
set_option maxRecDepth 20000
noncomputable def b2d (rt:Ty):Nat->TypeId->Option Ty
 | 0,_=>none
 | n+1,t=>if t=64 then some rt else if t=62 then some (.lf .big) else match Tryz.prog.underlying t with
  | some .bool=>some .bool
  | some (.int k)=>some (.int k)
  | some .string=>some (.lf .str)
  | some (.slice e)=>(b2d rt n e).map .list
  | some (.array m e)=>(b2d rt n e).map (.arr m)
  | some (.struct fs)=>fs.toList.foldr (fun f acc=>match b2d rt n f.type,acc with
   | some a,some b=>some (.pair a b)
   | _,_=>none) (some .unit)
  | _=>none
structure Hint where
 wr:List Nat
 kb:List Nat:=[]
 mt:List (Nat × Ty):=[]
def b4N:List (Nat × Ty)->Nat->Option Ty
 | [],_=>none
 | (s,t)::l,q=>if q=s then some t else b4N l q
noncomputable def told (h:Hint) (nc:FuncId->List AO):Told:=⟨b2d (.lf .dF) 8,b2d (.lf .rat) 8,fun s=>h.wr.contains s || h.kb.contains s,fun s=>h.kb.contains s,b4N h.mt,nc⟩
structure Lib where
 l:List (FuncId × Ctr)
 ok:∀ p ∈ l,aW Tryz.prog p.1 p.2
 n:List (FuncId × AO)
 okn:∀ p ∈ n,NOk Tryz.prog p.1 p.2
def OD {γ:Type}:List (FuncId × γ)->FuncId->List γ
 | [],_=>[]
 | (f,c)::l,g=>if g=f then c::OD l g else OD l g
theorem tZ {γ:Type}:∀ {l:List (FuncId × γ)} {g:FuncId} {c:γ},c ∈ OD l g->(g,c) ∈ l
 | (f,c')::l,g,c,h=>by
  simp only[OD] at h
  split at h
  ·rename_i e
   rcases um.1 h with rfl|h
   ·rw[e];exact jk ..
   ·exact jf _ (tZ h)
  ·exact jf _ (tZ h)
 | [],g,c,h=>by cases h
def Lib.nil:Lib:=⟨[],(fun p hp=>by cases hp),[],fun p hp=>by cases hp⟩
def Lib.add (L:Lib) (f:FuncId) (c:Ctr) (h:aW Tryz.prog f c):Lib:=⟨(f,c)::L.l,fun p hp=>(um.1 hp).elim (fun e=>by subst e;exact h) (fun hp=>L.ok p hp),L.n,L.okn⟩
def Lib.c2R (L:Lib) (f:FuncId) (c:AO) (h:NOk Tryz.prog f c):Lib:=⟨L.l,L.ok,(f,c)::L.n,fun p hp=>(um.1 hp).elim (fun e=>by subst e;exact h) (fun hp=>L.okn p hp)⟩
def Lib.ad (L:Lib) {f:FuncId} {c:Ctr} (h:aW Tryz.prog f c):Lib:=L.add f c h
def Lib.an (L:Lib) {f:FuncId} {c:AO} (h:NOk Tryz.prog f c):Lib:=L.c2R f c h
def nil0:Lib:=Lib.nil
noncomputable def Lib.book (L:Lib) (N:Nat) (h:Hint):Book:=⟨Tryz.prog,OD L.l,told h (OD L.n),N,fun _=>false⟩
noncomputable def Lib.a5o (L:Lib) (N:Nat) (h:Hint):Book:=⟨Tryz.prog,OD L.l,told h (OD L.n),N,fun s=>s==0⟩
theorem Lib.good (L:Lib) (N:Nat) (wr:Hint):(L.book N wr).Ok:=⟨fun g c h=>L.ok (g,c) (tZ h),fun g c h=>L.okn (g,c) (tZ h)⟩
theorem Lib.c1n (L:Lib) (N:Nat) (wr:Hint):(L.a5o N wr).Ok:=⟨fun g c h=>L.ok (g,c) (tZ h),fun g c h=>L.okn (g,c) (tZ h)⟩
theorem mixed:Tryz.prog.follows .mixedOrders=true:=by kernel_rfl
theorem bH (L:Lib) {f:FuncId} {fn:Func} {code:Code} {c:Ctr} (hint:Hint) (hf:Tryz.prog.funcs[f]?=some fn) (hb:fn.body=some code) (hargs:c.args.length<=fn.ntmps) (A:(nest c.args).den->List Ann)
  (h:∀ x,c.pre x->vwp (L.book fn.ntmps hint) code (A x) (b6E (L.book fn.ntmps hint) c.res fn.results.toList (c.fn x)) (yI 0 c.args x) []):aW Tryz.prog f c :=
 b5A (B:=L.book fn.ntmps hint) (L.good fn.ntmps hint) mixed hf hb rfl rfl hargs A h
theorem lF (L:Lib) {f:FuncId} {fn:Func} {code:Code} {c:Ctr} (wr:List Nat) (hf:Tryz.prog.funcs[f]?=some fn) (hb:fn.body=some code) (hargs:c.args.length<=fn.ntmps) (A:(nest c.args).den->List Ann)
  (h:∀ x,c.pre x->vwp (L.book fn.ntmps ⟨wr,[],[]⟩) code (A x) (b6E (L.book fn.ntmps ⟨wr,[],[]⟩) c.res fn.results.toList (c.fn x)) (yI 0 c.args x) []):aW Tryz.prog f c :=
 bH L ⟨wr,[],[]⟩ hf hb hargs A h
theorem qB (L:Lib) {f:FuncId} {fn:Func} {code:Code} {k:LK} {args:List Ty} {pre:(nest args).den->Prop} {made:(nest args).den->k.ty.den} (hint:Hint) (hf:Tryz.prog.funcs[f]?=some fn) (hb:fn.body=some code) (hargs:args.length<=fn.ntmps) (A:(nest args).den->List Ann)
  (h:∀ x,pre x->vwp (L.book fn.ntmps hint) code (A x) (c2l k (made x) fn.results.toList) (yI 0 args x) []):NOk Tryz.prog f (.mk k args pre made) :=
 b6v (B:=L.book fn.ntmps hint) (L.good fn.ntmps hint) mixed hf hb rfl rfl hargs A h
theorem a6b (L:Lib) {f:FuncId} {fn:Func} {code:Code} {k:LK} {args res:List Ty} {pre:k.ty.den->(nest args).den->Prop} {out:k.ty.den->(nest args).den->k.ty.den} {g:k.ty.den->(nest args).den->(nest res).den} (hint:Hint) (hf:Tryz.prog.funcs[f]?=some fn) (hb:fn.body=some code) (hargs:args.length+1<=fn.ntmps) (A:k.ty.den->(nest args).den->List Ann)
  (h:∀ x y,pre x y->vwp (L.a5o fn.ntmps hint) code (A x y) (c2n (L.a5o fn.ntmps hint) k (out x y) res fn.results.toList (g x y)) ((0,.own 0 0)::yI 1 args y) [(0,k.res x 0)]):NOk Tryz.prog f (.chg k args res pre out g) :=
 b3A (B:=L.a5o fn.ntmps hint) (L.c1n fn.ntmps hint) mixed hf hb rfl rfl hargs A h
theorem wE {F:Nat->Prop} {w:World} {v:Value} {x:Rat} (h:kC F w (.lf .rat) v x):RQ w v x:=by
 obtain⟨cs,rfl,h2⟩:=h
 exact h2
theorem a6M {F:Nat->Prop} {w:World} {v:Value} {x:Rat} (h:RQ w v x):kC F w (.lf .rat) v x:=by
 obtain⟨b,p,n,c,b',p',n',c',rfl⟩:=h.form
 exact⟨_,rfl,h⟩
theorem b2f {F:Nat->Prop} {w:World} (b:Bool):kC F w .bool (.bool b) b:=⟨_,rfl,rfl⟩
theorem b5u {F:Nat->Prop} {w:World} {v:Value} {b:Bool} (h:kC F w .bool v b):v=.bool b:=by
 obtain⟨cs,rfl,h2⟩:=h
 rw[show cs=_ from h2];rfl
theorem a3q {F:Nat->Prop} {w:World} {k:IntKind} (b:Int):kC F w (.int k) (.int k b) b:=⟨_,rfl,rfl⟩
theorem c1R {F:Nat->Prop} {w:World} {k:IntKind} {v:Value} {b:Int} (h:kC F w (.int k) v b):v=.int k b:=by
 obtain⟨cs,rfl,h2⟩:=h
 rw[show cs=_ from h2];rfl
abbrev tQ:Ty:=.lf .rat
abbrev tI:Ty:=.int .i64
def cQ2 (pre:Rat->Rat->Prop) (g:Rat->Rat->Rat):Ctr:=⟨[tQ,tQ],[tQ],fun x=>pre x.1 x.2.1,fun x=>(g x.1 x.2.1,())⟩
theorem LV {f:FuncId} {pre:Rat->Rat->Prop} {g:Rat->Rat->Rat} (h:∀ (v u:Value) (x y:Rat) (w:World),RQ w v x->RQ w u y->pre x y->Calls Tryz.prog f #[v,u] w (GQ (g x y) w)):aW Tryz.prog f (cQ2 pre g):=by
 intro F w vs x hF hvs hp
 obtain⟨v,vs',rfl,h1,u,vs'',rfl,h2,h3⟩:=hvs
 have h3:vs''=[]:=h3
 subst h3
 refine(h v u x.1 x.2.1 w (wE h1) (wE h2) hp).mono ?_
 rintro e w' ⟨r,rfl,hr,hb⟩
 exact⟨r,rfl,a6M hr,hb⟩
def cQ1 (pre:Rat->Prop) (g:Rat->Rat):Ctr:=⟨[tQ],[tQ],fun x=>pre x.1,fun x=>(g x.1,())⟩
theorem b5y {f:FuncId} {pre:Rat->Prop} {g:Rat->Rat} (h:∀ (v:Value) (x:Rat) (w:World),RQ w v x->pre x->Calls Tryz.prog f #[v] w (GQ (g x) w)):aW Tryz.prog f (cQ1 pre g):=by
 intro F w vs x hF hvs hp
 obtain⟨v,vs',rfl,h1,h3⟩:=hvs
 have h3:vs'=[]:=h3
 subst h3
 refine(h v x.1 w (wE h1) hp).mono ?_
 rintro e w' ⟨r,rfl,hr,hb⟩
 exact⟨r,rfl,a6M hr,hb⟩
def cIQ (pre:Int->Prop) (g:Int->Rat):Ctr:=⟨[tI],[tQ],fun x=>pre x.1,fun x=>(g x.1,())⟩
theorem a8G {f:FuncId} {pre:Int->Prop} {g:Int->Rat} (h:∀ (x:Int) (w:World),pre x->Calls Tryz.prog f #[.int .i64 x] w (GQ (g x) w)):aW Tryz.prog f (cIQ pre g):=by
 intro F w vs x hF hvs hp
 obtain⟨v,vs',rfl,h1,h3⟩:=hvs
 have h3:vs'=[]:=h3
 subst h3
 rw[c1R h1]
 refine(h x.1 w hp).mono ?_
 rintro e w' ⟨r,rfl,hr,hb⟩
 exact⟨r,rfl,a6M hr,hb⟩
set_option maxRecDepth 100000
set_option maxHeartbeats 4000000
theorem uV {n d:Int} {k:Nat} (hd:d≠0) (h:isz d<=k):isz ((Int.gcd n d:Nat):Int)<=k:=by
 refine jg (TI ?_) h
 rw[Int.natAbs_natCast]
 have:=Nat.gcd_le_right n.natAbs (show 0<d.natAbs by omega)
 exact this
theorem gcd_ne {n d:Int} (hd:d≠0):((Int.gcd n d:Nat):Int)≠0:=by
 have:0<Int.gcd n d:=Int.gcd_pos_of_ne_zero_right _ hd
 omega
theorem JQ {n d:Int} (hd:0<d):n.fdiv ((Int.gcd n d:Nat):Int)=(Rat.divInt n d).num/\d.fdiv ((Int.gcd n d:Nat):Int)=(Rat.divInt n d).den:=by
 rw[pV hd,pU hd,Int.fdiv_eq_ediv_of_nonneg _ (by omega),Int.fdiv_eq_ediv_of_nonneg _ (by omega)]
 exact⟨rfl,rfl⟩
theorem a0g {n d:Int} (hd:d<0):(-n).fdiv ((Int.gcd (-n) (-d):Nat):Int)=(Rat.divInt n d).num/\(-d).fdiv ((Int.gcd (-n) (-d):Nat):Int)=(Rat.divInt n d).den:=by
 rw[<-uM n d]
 exact JQ (by omega)
theorem UJ (v u:Value) (x y:Int) (w:World) (hv:dR w v x) (hu:dR w u y) (hl:isz x<=1000000000) (hl2:isz y<=1000000000) (hd:0<y) :
  Calls Tryz.prog 151 #[v,u] w (GQ (Rat.divInt x y) w):=by
 obtain⟨b,p,n,c,rfl⟩:=hv.form
 obtain⟨d,o,m,e,rfl⟩:=hu.form
 have HX:=bn (JQ (n:=x) hd)
 have hn1:isz (-x)<=1000000000:=by rw[nJ];omega
 have hn2:isz (-y)<=1000000000:=by rw[nJ];omega
 have hlg:isz ((Int.gcd x y:Nat):Int)<=1000000000:=uV (by omega) (by assumption)
 have hg0:((Int.gcd x y:Nat):Int)≠0:=gcd_ne (by omega)
 have hsg:decide (sgn y<0)=false:=by rw[zL hd];rfl
 clear hd
 have bZ:Below w.heap.size w w:=dn _ _
 go_enter Tryz.func151,Tryz.ntmps151
 go_wp2_with fail
 obtain⟨hA1,w0,x0,y0⟩:=bx3 w rfl [.bool b,.slice p n c] 62 [.bool d,.slice o m e] 62 [.bool false,.slice none 0 0,.bool false,.slice none 0 0] 64
 have a1:=(hu.below hA1).raw
 (with_reducible refine(rM _ (y) _ a1).mono ?_)
 rintro e w1 ⟨rfl,hb1⟩
 have dP:=(w0.to hb1)
 obtain⟨j1,m1⟩:=dP.cs2
 have dW:=(x0.to hb1)
 obtain⟨p1,r1⟩:=dW.cs2
 go_wp2_with fail
 have qZ:=((hv.below hA1).below hb1)
 have b1:=qZ.raw
 have jZ:=((hu.below hA1).below hb1)
 have c1:=jZ.raw
 (with_reducible refine(a0k _ _ (x) (y) _ b1 c1 (by omega) (by omega)).mono ?_)
 rintro e w2 ⟨v2,rfl,hi2,hb2⟩
 obtain⟨g2,p2,n2,c2,rfl⟩:=hi2.form
 have dL:=(dP.to hb2)
 obtain⟨k1,n1⟩:=dL.cs2
 have q0:=(dL).1
 have dM:=(dW.to hb2)
 have r0:=(dM).1
 have lS:=((y0.to hb1).to hb2)
 have s0:=(lS).1
 go_wp2_with fail
 have IK:=(qZ.below hb2)
 obtain⟨hA2,z0⟩:=bx1 w2 rfl [.bool g2,.slice p2 n2 c2] 62
 have d1:=(IK.below hA2).raw
 have e1:=(hi2.below hA2).raw
 (with_reducible refine(yN _ _ (x) ((Int.gcd (x) (y):Int)) _ d1 e1 (by omega) hlg hg0).mono ?_)
 rintro e w3 ⟨v3,u3,rfl,hi3,hj3,hb3⟩
 obtain⟨g3,p3,n3,c3,rfl⟩:=hi3.form
 obtain⟨h3,o3,m3,e3,rfl⟩:=hj3.form
 have lH:=((dL.to hA2).to hb3)
 obtain⟨a0,c0,b0,d0⟩:=lH.cf2
 have pJ:=((dM.to hA2).to hb3)
 obtain⟨q1,s1⟩:=pJ.cs2
 have t1:=(z0.to hb3)
 obtain⟨u0,v0⟩:=t1.cs2
 go_wp2_with fail
 have KC:=(((jZ.below hb2).below hA2).below hb3)
 have f1:=(KC.aI lH rfl rfl (.bool g3) (.slice p3 n3 c3)).raw
 have h1:=((hi2.below hA2).below hb3)
 have g1:=(h1.aI lH rfl rfl (.bool g3) (.slice p3 n3 c3)).raw
 (with_reducible refine(yN _ _ (y) ((Int.gcd (x) (y):Int)) _ f1 g1 (by omega) hlg hg0).mono ?_)
 rintro e w4 ⟨v4,u4,rfl,hi4,hj4,hb4⟩
 obtain⟨g4,p4,n4,c4,rfl⟩:=hi4.form
 obtain⟨h4,o4,m4,e4,rfl⟩:=hj4.form
 have kR:=((pJ.aO (b:=w.heap.size) (by omega) (.bool g3) (.slice p3 n3 c3)).to hb4)
 obtain⟨e0,g0,f0,h0⟩:=kR.cf2
 have mV:=((lH.store2 (.bool g3) (.slice p3 n3 c3)).to hb4)
 obtain⟨l1,o1⟩:=mV.cs2
 have oV:=((((lS.to hA2).to hb3).aO (b:=w.heap.size) (by omega) (.bool g3) (.slice p3 n3 c3)).to hb4)
 obtain⟨i0,m0,j0,n0,k0,o0,l0,p0⟩:=oV.cf4
 have i1:=((hi3.aI lH rfl rfl (.bool g3) (.slice p3 n3 c3)).below hb4)
 have t0:=(Below.tr (Below.aI (Below.tr (Below.tr (Below.tr (Below.tr (Below.tr bZ hA1) hb1) hb2) hA2) hb3) (b:=w.heap.size) (by omega) (.bool g3) (.slice p3 n3 c3)) hb4)
 go_wp2_with fail
 exact jh (v:=.agg #[.bool g3,.slice p3 n3 c3,.bool g4,.slice p4 n4 c4]) (by simp[results,Tryz.results151,go_sem,q0,r0,s0,a0,c0,b0,d0,e0,g0,f0,h0,i0,m0,j0,n0,k0,o0,l0,p0]) rfl ⟨_,rfl,RQ.mk' ((i1.aI kR rfl rfl (.bool g4) (.slice p4 n4 c4)).bG (oV.aO (b:=w.heap.size+1) (by omega) (.bool g4) (.slice p4 n4 c4)) rfl rfl rfl rfl (.bool g3) (.slice p3 n3 c3) (.bool g4) (.slice p4 n4 c4)) ((hi4.aI kR rfl rfl (.bool g4) (.slice p4 n4 c4)).bG (oV.aO (b:=w.heap.size+1) (by omega) (.bool g4) (.slice p4 n4 c4)) rfl rfl rfl rfl (.bool g3) (.slice p3 n3 c3) (.bool g4) (.slice p4 n4 c4)) HX.out.1 HX.out.2,(Below.bG (Below.aI t0 (b:=w.heap.size+1) (by omega) (.bool g4) (.slice p4 n4 c4)) (b:=w.heap.size+1+1) (by omega) (.bool g3) (.slice p3 n3 c3) (.bool g4) (.slice p4 n4 c4))⟩
theorem WJ (v u:Value) (x y:Int) (w:World) (hv:dR w v x) (hu:dR w u y) (hl:isz x<=1000000000) (hl2:isz y<=1000000000) (hd:y<0) :
  Calls Tryz.prog 151 #[v,u] w (GQ (Rat.divInt x y) w):=by
 obtain⟨b,p,n,c,rfl⟩:=hv.form
 obtain⟨d,o,m,e,rfl⟩:=hu.form
 have HX:=bn (a0g (n:=x) hd)
 have hn1:isz (-x)<=1000000000:=by rw[nJ];omega
 have hn2:isz (-y)<=1000000000:=by rw[nJ];omega
 have hlg:isz ((Int.gcd (-x) (-y):Nat):Int)<=1000000000:=uV (by omega) (by assumption)
 have hg0:((Int.gcd (-x) (-y):Nat):Int)≠0:=gcd_ne (by omega)
 have hsg:decide (sgn y<0)=true:=by rw[KY hd];rfl
 clear hd
 have bZ:Below w.heap.size w w:=dn _ _
 go_enter Tryz.func151,Tryz.ntmps151
 go_wp2_with fail
 obtain⟨hA1,f1,g1,h1⟩:=bx3 w rfl [.bool b,.slice p n c] 62 [.bool d,.slice o m e] 62 [.bool false,.slice none 0 0,.bool false,.slice none 0 0] 64
 have j1:=(hu.below hA1).raw
 (with_reducible refine(rM _ (y) _ j1).mono ?_)
 rintro e w1 ⟨rfl,hb1⟩
 go_wp2_with fail
 have dP:=(f1.to hb1)
 obtain⟨x1,j2,d2,l2⟩:=dP.drew.cf2
 have dW:=(g1.to hb1)
 obtain⟨o2,z2,t2,b3⟩:=dW.drew.cf2
 have tk1:True:=trivial
 have tk2:True:=trivial
 go_region_with
  (first
   | (((have:=tk1);clear tk1;have qZ:=((hv.below hA1).below hb1);have k1:=qZ.drew.raw;go_at_call 139;(with_reducible refine(yZ _ (x) _ k1 (by omega)).mono ?_);rintro e w2 ⟨v2,rfl,hi2,hb2⟩;obtain⟨g2,p2,n2,c2,rfl⟩:=hi2.form;have dM:=(dW.drew.to hb2);obtain⟨q2,a3,u2,d3⟩:=dM.cf2;have dL:=(dP.drew.to hb2);obtain⟨y1,k2,e2,m2⟩:=dL.cf2))
   | (((have:=tk2);clear tk2;have VZ:=(((hu.below hA1).below hb1).drew.below hb2);have l1:=VZ.raw;go_at_call 139;(with_reducible refine(yZ _ (y) _ l1 (by omega)).mono ?_);rintro e w3 ⟨v3,rfl,hi3,hb3⟩;obtain⟨g3,p3,n3,c3,rfl⟩:=hi3.form;have lH:=(dL.to hb3);obtain⟨a0,e0,c0,g0⟩:=lH.cf2;have pJ:=(dM.to hb3);obtain⟨i0,m0,k0,o0⟩:=pJ.cf2)))
 all_goals
  obtain⟨z1,f2⟩:=((lH.store2 (.bool g2) (.slice p2 n2 c2)).aO (b:=w.heap.size+1) (by omega) (.bool g3) (.slice p3 n3 c3)).cs2
  obtain⟨r2,x2⟩:=((pJ.aO (b:=w.heap.size) (by omega) (.bool g2) (.slice p2 n2 c2)).store2 (.bool g3) (.slice p3 n3 c3)).cs2
  go_wp2_with fail
  have b1:=(hi2.below hb3)
  have m1:=((b1.aI lH rfl rfl (.bool g2) (.slice p2 n2 c2)).aI (pJ.aO (b:=w.heap.size) (by omega) (.bool g2) (.slice p2 n2 c2)) rfl rfl (.bool g3) (.slice p3 n3 c3)).raw
  have n1:=((hi3.aI lH rfl rfl (.bool g2) (.slice p2 n2 c2)).aI (pJ.aO (b:=w.heap.size) (by omega) (.bool g2) (.slice p2 n2 c2)) rfl rfl (.bool g3) (.slice p3 n3 c3)).raw
  (with_reducible refine(a0k _ _ (-((x))) (-((y))) _ m1 n1 (by omega) (by omega)).mono ?_)
  rintro e w4 ⟨v4,rfl,hi4,hb4⟩
  obtain⟨g4,p4,n4,c4,rfl⟩:=hi4.form
  have mV:=(((lH.store2 (.bool g2) (.slice p2 n2 c2)).aO (b:=w.heap.size+1) (by omega) (.bool g3) (.slice p3 n3 c3)).to hb4)
  obtain⟨a2,h2⟩:=mV.cs2
  have y0:=(mV).1
  have kR:=(((pJ.aO (b:=w.heap.size) (by omega) (.bool g2) (.slice p2 n2 c2)).store2 (.bool g3) (.slice p3 n3 c3)).to hb4)
  have z0:=(kR).1
  have oV:=((((((h1.to hb1).drew.to hb2).to hb3).aO (b:=w.heap.size) (by omega) (.bool g2) (.slice p2 n2 c2)).aO (b:=w.heap.size+1) (by omega) (.bool g3) (.slice p3 n3 c3)).to hb4)
  have a1:=(oV).1
  go_wp2_with fail
  have s1:=(((b1.aI lH rfl rfl (.bool g2) (.slice p2 n2 c2)).aI (pJ.aO (b:=w.heap.size) (by omega) (.bool g2) (.slice p2 n2 c2)) rfl rfl (.bool g3) (.slice p3 n3 c3)).below hb4)
  obtain⟨hA2,i1⟩:=bx1 w4 rfl [.bool g4,.slice p4 n4 c4] 62
  have o1:=(s1.below hA2).raw
  have p1:=(hi4.below hA2).raw
  (with_reducible refine(yN _ _ (-((x))) ((Int.gcd (-((x))) (-((y))):Int)) _ o1 p1 (by omega) hlg hg0).mono ?_)
  rintro e w5 ⟨v5,u5,rfl,hi5,hj5,hb5⟩
  obtain⟨g5,p5,n5,c5,rfl⟩:=hi5.form
  obtain⟨h5,o5,m5,e5,rfl⟩:=hj5.form
  have a2H:=((mV.to hA2).to hb5)
  obtain⟨b0,f0,d0,h0⟩:=a2H.cf2
  have b0Q:=((kR.to hA2).to hb5)
  obtain⟨s2,y2⟩:=b0Q.cs2
  have e3:=(i1.to hb5)
  obtain⟨d1,e1⟩:=e3.cs2
  go_wp2_with fail
  have t1:=(((((hi3.aI lH rfl rfl (.bool g2) (.slice p2 n2 c2)).aI (pJ.aO (b:=w.heap.size) (by omega) (.bool g2) (.slice p2 n2 c2)) rfl rfl (.bool g3) (.slice p3 n3 c3)).below hb4).below hA2).below hb5)
  have q1:=(t1.aI a2H rfl rfl (.bool g5) (.slice p5 n5 c5)).raw
  have u1:=((hi4.below hA2).below hb5)
  have r1:=(u1.aI a2H rfl rfl (.bool g5) (.slice p5 n5 c5)).raw
  (with_reducible refine(yN _ _ (-((y))) ((Int.gcd (-((x))) (-((y))):Int)) _ q1 r1 (by omega) hlg hg0).mono ?_)
  rintro e w6 ⟨v6,u6,rfl,hi6,hj6,hb6⟩
  obtain⟨g6,p6,n6,c6,rfl⟩:=hi6.form
  obtain⟨h6,o6,m6,e6,rfl⟩:=hj6.form
  have a4u:=((b0Q.aO (b:=w.heap.size) (by omega) (.bool g5) (.slice p5 n5 c5)).to hb6)
  obtain⟨j0,n0,l0,p0⟩:=a4u.cf2
  have b0P:=((a2H.store2 (.bool g5) (.slice p5 n5 c5)).to hb6)
  obtain⟨b2,i2⟩:=b0P.cs2
  have sH:=((((oV.to hA2).to hb5).aO (b:=w.heap.size) (by omega) (.bool g5) (.slice p5 n5 c5)).to hb6)
  obtain⟨q0,u0,r0,v0,s0,w0,t0,x0⟩:=sH.cf4
  have v1:=((hi5.aI a2H rfl rfl (.bool g5) (.slice p5 n5 c5)).below hb6)
  have c1:=(Below.tr (Below.aI (Below.tr (Below.tr (Below.tr (Below.aI (Below.aI (Below.tr (Below.tr (Below.tr (Below.tr bZ hA1) hb1).drew hb2) hb3) (b:=w.heap.size) (by omega) (.bool g2) (.slice p2 n2 c2)) (b:=w.heap.size+1) (by omega) (.bool g3) (.slice p3 n3 c3)) hb4) hA2) hb5) (b:=w.heap.size) (by omega) (.bool g5) (.slice p5 n5 c5)) hb6)
  go_wp2_with fail
  exact jh (v:=.agg #[.bool g5,.slice p5 n5 c5,.bool g6,.slice p6 n6 c6]) (by simp[results,Tryz.results151,go_sem,a0,e0,c0,g0,i0,m0,k0,o0,y0,z0,a1,b0,f0,d0,h0,j0,n0,l0,p0,q0,u0,r0,v0,s0,w0,t0,x0]) rfl ⟨_,rfl,RQ.mk' ((v1.aI a4u rfl rfl (.bool g6) (.slice p6 n6 c6)).bG (sH.aO (b:=w.heap.size+1) (by omega) (.bool g6) (.slice p6 n6 c6)) rfl rfl rfl rfl (.bool g5) (.slice p5 n5 c5) (.bool g6) (.slice p6 n6 c6)) ((hi6.aI a4u rfl rfl (.bool g6) (.slice p6 n6 c6)).bG (sH.aO (b:=w.heap.size+1) (by omega) (.bool g6) (.slice p6 n6 c6)) rfl rfl rfl rfl (.bool g5) (.slice p5 n5 c5) (.bool g6) (.slice p6 n6 c6)) HX.out.1 HX.out.2,(Below.bG (Below.aI c1 (b:=w.heap.size+1) (by omega) (.bool g6) (.slice p6 n6 c6)) (b:=w.heap.size+1+1) (by omega) (.bool g5) (.slice p5 n5 c5) (.bool g6) (.slice p6 n6 c6))⟩
theorem zG (v u:Value) (x y:Int) (w:World) (hv:dR w v x) (hu:dR w u y) (hl:isz x<=1000000000) (hl2:isz y<=1000000000) (hd:y≠0) :
  Calls Tryz.prog 151 #[v,u] w (GQ (Rat.divInt x y) w):=by
 rcases Ae y 0 with h|h|h
 ·exact WJ v u x y w hv hu hl hl2 h
 ·exact absurd h hd
 ·exact UJ v u x y w hv hu hl hl2 h
def GQC (q:Rat) (c:Int) (w:World) (e:Ending) (w':World):Prop:=∃ v,e=.returned (.tuple #[v,.int .i64 c])/\RQ w' v q/\Below w.heap.size w w'
def c0i (c:Int) (w:World) (e:Ending) (w':World):Prop:=e=.returned (.tuple #[.agg #[.bool false,.slice none 0 0,.bool false,.slice none 0 0],.int .i64 c])/\Below w.heap.size w w'
theorem OC:∀ (a b c d:Value) (w:World),Sem.run Tryz.prog (Instr.field 64 (.agg #[a,b,c,d]) 0) w=.ok (.agg #[a,b]) w:=fun a b c d w=>by kernel_rfl
theorem a8f (v:Value) (ok:Bool) (q:Rat) (w:World) (h:iD w v ok q) (hn:Qn v 1000000000) :
  Calls Tryz.prog 70 #[v] w (fun e w'=>e=.returned (.int .i64 (sgn q.num))/\Below w.heap.size w w'):=by
 obtain⟨b,p,n,c,d,o,m,e,rfl⟩:=h.form
 have hl:=h.kS hn (by omega)
 have b1:=fA q
 have b2:=eF q
 have b0:=OC
 have bZ:Below w.heap.size w w:=dn _ _
 go_enter Tryz.func70,Tryz.ntmps70
 go_wp2_with fail
 obtain⟨hA1,e0⟩:=bx1 w rfl [.bool b,.slice p n c,.bool d,.slice o m e] 64
 have c0:=(h.below hA1)
 (with_reducible refine(jD _ _ (q) _ c0 hn).mono ?_)
 rintro e w1 ⟨v1,rfl,hi1,hb1⟩
 obtain⟨g1,p1,n1,c1,h1,o1,m1,e1,rfl⟩:=hi1.form
 go_wp2_with fail
 have d0:=hi1.num.raw
 (with_reducible refine(rM _ (((q)).num) _ d0).mono ?_)
 rintro e w2 ⟨rfl,hb2⟩
 have a0:=(Below.tr (Below.tr (Below.tr bZ hA1) hb1) hb2)
 go_wp2_with fail
 go_ret
 exact⟨rfl,a0⟩
theorem a2B (v:Value) (ok:Bool) (q:Rat) (w:World) (h:iD w v ok q) (hn:Qn v 1000000000) :
  Calls Tryz.prog 93 #[v] w (GQ (-q) w):=by
 obtain⟨b,p,n,c,d,o,m,e,rfl⟩:=h.form
 have hl:=h.kS hn (by omega)
 have b1:=fA q
 have b2:=eF q
 have bZ:Below w.heap.size w w:=dn _ _
 go_enter Tryz.func93,Tryz.ntmps93
 go_wp2_with fail
 obtain⟨hA1,s0,t0⟩:=bx2 w rfl [.bool b,.slice p n c,.bool d,.slice o m e] 64 [.bool false,.slice none 0 0,.bool false,.slice none 0 0] 64
 have u0:=(h.below hA1)
 (with_reducible refine(jD _ _ (q) _ u0 hn).mono ?_)
 rintro e w1 ⟨v1,rfl,hi1,hb1⟩
 obtain⟨g1,p1,n1,c1,h1,o1,m1,e1,rfl⟩:=hi1.form
 have dP:=(s0.to hb1)
 obtain⟨a0,e0,b0,f0,c0,g0,d0,h0⟩:=dP.cf4
 go_wp2_with fail
 have dW:=(t0.to hb1)
 have ZL:=(aK.mk ((dP.vH (.bool g1) (.slice p1 n1 c1) (.bool h1) (.slice o1 m1 e1)).drew).bs4 (BN.of ((dW.fD (b:=w.heap.size) (by omega) (.bool g1) (.slice p1 n1 c1) (.bool h1) (.slice o1 m1 e1)).drew)))
 have q0:dQ (w.heap.size+1) (aK (BS4 w.heap.size (.bool g1) (.slice p1 n1 c1) (.bool h1) (.slice o1 m1 e1)) (BN (w.heap.size+1))):=(aK.hc (BS4.hc (by omega)) BN.hc)
 have tk1:True:=trivial
 go_region_held3 (aK (BS4 w.heap.size (.bool g1) (.slice p1 n1 c1) (.bool h1) (.slice o1 m1 e1)) (BN (w.heap.size+1))) (first|with_reducible exact ZL|with_reducible exact iC.go (aK.hk BS4.hk BN.hk) (by assumption) (by assumption)|with_reducible exact dQ.go4 q0 (by assumption)|(simp;done))
  (first
   | (((have:=tk1);clear tk1;have v0:=(hi1.bG dP rfl rfl rfl rfl (.bool g1) (.slice p1 n1 c1) (.bool h1) (.slice o1 m1 e1)).drew.num.raw;go_at_call 139;(with_reducible refine(yZ _ (((q)).num) _ v0 (by omega)).mono ?_);rintro e w2 ⟨v2,rfl,hi2,hb2⟩;obtain⟨g2,p2,n2,c2,rfl⟩:=hi2.form;have dM:=((dW.fD (b:=w.heap.size) (by omega) (.bool g1) (.slice p1 n1 c1) (.bool h1) (.slice o1 m1 e1)).drew.to hb2);obtain⟨i0,m0,j0,n0,k0,o0,l0,p0⟩:=dM.cf4)))
 have w0:=((hi1.bG dP rfl rfl rfl rfl (.bool g1) (.slice p1 n1 c1) (.bool h1) (.slice o1 m1 e1)).drew.below hb2)
 have r0:=(Below.tr (Below.bG (Below.tr (Below.tr bZ hA1) hb1) (b:=w.heap.size) (by omega) (.bool g1) (.slice p1 n1 c1) (.bool h1) (.slice o1 m1 e1)).drew hb2)
 go_wp2_with fail
 exact jh (v:=.agg #[.bool g2,.slice p2 n2 c2,.bool h1,.slice o1 m1 e1]) (by simp[results,Tryz.results93,go_sem,a0,e0,b0,f0,c0,g0,d0,h0,i0,m0,j0,n0,k0,o0,l0,p0]) rfl ⟨_,rfl,RQ.mk' (hi2.bG dM rfl rfl rfl rfl (.bool g2) (.slice p2 n2 c2) (.bool h1) (.slice o1 m1 e1)) (w0.bG dM rfl rfl rfl rfl (.bool g2) (.slice p2 n2 c2) (.bool h1) (.slice o1 m1 e1)).den (OM q).symm (by rw[OL]),(Below.bG r0 (b:=w.heap.size+1) (by omega) (.bool g2) (.slice p2 n2 c2) (.bool h1) (.slice o1 m1 e1))⟩
theorem a8e (v:Value) (q:Rat) (w:World) (h:RQ w v q) (hl:rsz q<=1000000000) :
 Calls Tryz.prog 70 #[v] w (fun e w'=>e=.returned (.int .i64 (sgn q.num))/\Below w.heap.size w w'):=a8f v true q w h.raw (h.qn hl)
theorem Qn.up {v:Value} {k m:Nat} (h:Qn v k) (hk:k<=m):Qn v m:=by
 obtain⟨b,p,n,c,b',p',n',c',e,h1,h2⟩:=h
 exact⟨b,p,n,c,b',p',n',c',e,by omega,by omega⟩
theorem yM (x y:Rat):(x.den:Int)*y.den≠0:=by
 have:=mW x;have:=mW y
 exact Int.ne_of_gt (Int.mul_pos (by assumption) (by assumption))
theorem a1p (v u:Value) (o1 o2:Bool) (x y:Rat) (w:World) (h1:iD w v o1 x) (h2:iD w u o2 y) (n1:Qn v 400000000) (n2:Qn u 400000000) :
  Calls Tryz.prog 115 #[v,u] w (GQ (x+y) w):=by
 obtain⟨b,p,n,c,d,o,m,e,rfl⟩:=h1.form
 obtain⟨f,i,j,k,g,r,t,a,rfl⟩:=h2.form
 have hl:=h1.kS n1 (by omega)
 have hl2:=h2.kS n2 (by omega)
 have m1:=n1.up (show 400000000<=1000000000 by omega)
 have m2:=n2.up (show 400000000<=1000000000 by omega)
 have b1:=fA x
 have b2:=eF x
 have b3:=fA y
 have b4:=eF y
 have c1:=eH x.num y.den
 have c2:=eH y.num x.den
 have c3:=EW (x.num*y.den) (y.num*x.den)
 have c4:=eH x.den y.den
 have HX:=bn (a0I x y)
 have hd0:=yM x y
 have bZ:Below w.heap.size w w:=dn _ _
 go_enter Tryz.func115,Tryz.ntmps115
 go_wp2_with fail
 obtain⟨hA1,y0,z0,k1⟩:=bx3 w rfl [.bool b,.slice p n c,.bool d,.slice o m e] 64 [.bool f,.slice i j k,.bool g,.slice r t a] 64 [.bool false,.slice none 0 0,.bool false,.slice none 0 0] 64
 obtain⟨q2,a3,s2,e3,u2,h3,y2,j3⟩:=y0.drew.cf4
 obtain⟨l3,x3,o3,z3,r3,d4,t3,f4⟩:=z0.drew.cf4
 have tk1:True:=trivial
 have tk2:True:=trivial
 go_region_with
  (first
   | (((have:=tk1);clear tk1;have l1:=(h1.below hA1).drew;go_at_call 119;(with_reducible refine(jD _ _ (x) _ l1 m1).mono ?_);rintro e w1 ⟨v1,rfl,hi1,hb1⟩;obtain⟨g1,p1,n1,c1,h1,o1,m1,e1,rfl⟩:=hi1.form;have dW:=(z0.drew.to hb1);obtain⟨m3,y3,q3,a4,s3,e4,u3,h4⟩:=dW.cf4;have dP:=(y0.drew.to hb1);obtain⟨r2,d3,t2,f3,x2,i3,z2,k3⟩:=dP.cf4))
   | (((have:=tk2);clear tk2;have a0l:=((h2.below hA1).drew.below hb1);have q1:=a0l;go_at_call 119;(with_reducible refine(jD _ _ (y) _ q1 m2).mono ?_);rintro e w2 ⟨v2,rfl,hi2,hb2⟩;obtain⟨g2,p2,n2,c2,h2,o2,m2,e2,rfl⟩:=hi2.form;have dL:=(dP.to hb2);obtain⟨a0,e0,b0,f0,c0,g0,d0,h0⟩:=dL.cf4;have dM:=(dW.to hb2);obtain⟨i0,m0,j0,n0,k0,o0,l0,p0⟩:=dM.cf4)))
 all_goals
  go_wp2_with fail
  have lS:=((k1.drew.to hb1).to hb2)
  have ZL:=(aK.mk (((dL.vH (.bool g1) (.slice p1 n1 c1) (.bool h1) (.slice o1 m1 e1)).fD (b:=w.heap.size+1) (by omega) (.bool g2) (.slice p2 n2 c2) (.bool h2) (.slice o2 m2 e2)).drew).bs4 (aK.mk (((dM.fD (b:=w.heap.size) (by omega) (.bool g1) (.slice p1 n1 c1) (.bool h1) (.slice o1 m1 e1)).vH (.bool g2) (.slice p2 n2 c2) (.bool h2) (.slice o2 m2 e2)).drew).bs4 (BN.of (((lS.fD (b:=w.heap.size) (by omega) (.bool g1) (.slice p1 n1 c1) (.bool h1) (.slice o1 m1 e1)).fD (b:=w.heap.size+1) (by omega) (.bool g2) (.slice p2 n2 c2) (.bool h2) (.slice o2 m2 e2)).drew))))
  have i1:dQ (w.heap.size+1+1) (aK (BS4 w.heap.size (.bool g1) (.slice p1 n1 c1) (.bool h1) (.slice o1 m1 e1)) (aK (BS4 (w.heap.size+1) (.bool g2) (.slice p2 n2 c2) (.bool h2) (.slice o2 m2 e2)) (BN (w.heap.size+1+1)))):=(aK.hc (BS4.hc (by omega)) (aK.hc (BS4.hc (by omega)) BN.hc))
  have tk3:True:=trivial
  have tk4:True:=trivial
  have tk5:True:=trivial
  have tk6:True:=trivial
  have tk7:True:=trivial
  go_region_held3 (aK (BS4 w.heap.size (.bool g1) (.slice p1 n1 c1) (.bool h1) (.slice o1 m1 e1)) (aK (BS4 (w.heap.size+1) (.bool g2) (.slice p2 n2 c2) (.bool h2) (.slice o2 m2 e2)) (BN (w.heap.size+1+1)))) (first|with_reducible exact ZL|with_reducible exact iC.go (aK.hk BS4.hk (aK.hk BS4.hk BN.hk)) (by assumption) (by assumption)|with_reducible exact dQ.go4 i1 (by assumption)|(simp;done))
   (first
    | (((have:=tk3);clear tk3;have a1:=(hi1.below hb2);have r1:=((a1.bG dL rfl rfl rfl rfl (.bool g1) (.slice p1 n1 c1) (.bool h1) (.slice o1 m1 e1)).bG (dM.fD (b:=w.heap.size) (by omega) (.bool g1) (.slice p1 n1 c1) (.bool h1) (.slice o1 m1 e1)) rfl rfl rfl rfl (.bool g2) (.slice p2 n2 c2) (.bool h2) (.slice o2 m2 e2)).drew.num.raw;have s1:=((hi2.bG dL rfl rfl rfl rfl (.bool g1) (.slice p1 n1 c1) (.bool h1) (.slice o1 m1 e1)).bG (dM.fD (b:=w.heap.size) (by omega) (.bool g1) (.slice p1 n1 c1) (.bool h1) (.slice o1 m1 e1)) rfl rfl rfl rfl (.bool g2) (.slice p2 n2 c2) (.bool h2) (.slice o2 m2 e2)).drew.den.raw;go_at_call 136;(with_reducible refine(mul_any _ _ (((x)).num) ((((y)).den:Int)) _ r1 s1 (by omega) (by omega)).mono ?_);rintro e w3 ⟨v3,rfl,hi3,hb3⟩;obtain⟨g3,p3,n3,c3,rfl⟩:=hi3.form))
    | (((have:=tk4);clear tk4;have f1:=(((hi2.bG dL rfl rfl rfl rfl (.bool g1) (.slice p1 n1 c1) (.bool h1) (.slice o1 m1 e1)).bG (dM.fD (b:=w.heap.size) (by omega) (.bool g1) (.slice p1 n1 c1) (.bool h1) (.slice o1 m1 e1)) rfl rfl rfl rfl (.bool g2) (.slice p2 n2 c2) (.bool h2) (.slice o2 m2 e2)).drew.below hb3);have t1:=f1.num.raw;have d1:=(((a1.bG dL rfl rfl rfl rfl (.bool g1) (.slice p1 n1 c1) (.bool h1) (.slice o1 m1 e1)).bG (dM.fD (b:=w.heap.size) (by omega) (.bool g1) (.slice p1 n1 c1) (.bool h1) (.slice o1 m1 e1)) rfl rfl rfl rfl (.bool g2) (.slice p2 n2 c2) (.bool h2) (.slice o2 m2 e2)).drew.below hb3);have u1:=d1.den.raw;go_at_call 136;(with_reducible refine(mul_any _ _ (((y)).num) ((((x)).den:Int)) _ t1 u1 (by omega) (by omega)).mono ?_);rintro e w4 ⟨v4,rfl,hi4,hb4⟩;obtain⟨g4,p4,n4,c4,rfl⟩:=hi4.form))
    | (((have:=tk5);clear tk5;have k2:=(hi3.below hb4);have x1:=k2.raw;have y1:=hi4.raw;go_at_call 152;(with_reducible refine(add_any _ _ ((((x)).num)*((((y)).den:Int))) ((((y)).num)*((((x)).den:Int))) _ x1 y1 (by omega) (by omega)).mono ?_);rintro e w5 ⟨v5,rfl,hi5,hb5⟩;obtain⟨g5,p5,n5,c5,rfl⟩:=hi5.form))
    | (((have:=tk6);clear tk6;have i2:=((d1.below hb4).below hb5);have z1:=i2.den.raw;have j2:=((f1.below hb4).below hb5);have a2:=j2.den.raw;go_at_call 136;(with_reducible refine(mul_any _ _ ((((x)).den:Int)) ((((y)).den:Int)) _ z1 a2 (by omega) (by omega)).mono ?_);rintro e w6 ⟨v6,rfl,hi6,hb6⟩;obtain⟨g6,p6,n6,c6,rfl⟩:=hi6.form))
    | (((have:=tk7);clear tk7;have l2:=(hi5.below hb6);have d2:=l2;have f2:=hi6;go_at_call 151;(with_reducible refine(zG _ _ (((((x)).num)*((((y)).den:Int)))+((((y)).num)*((((x)).den:Int)))) (((((x)).den:Int))*((((y)).den:Int))) _ d2 f2 (by omega) (by omega) hd0).mono ?_);rintro e w7 ⟨v7,rfl,hi7,hb7⟩;obtain⟨g7,p7,n7,c7,h7,o7,m7,e7,rfl⟩:=hi7.form;have b0R:=(((((((lS.fD (b:=w.heap.size) (by omega) (.bool g1) (.slice p1 n1 c1) (.bool h1) (.slice o1 m1 e1)).fD (b:=w.heap.size+1) (by omega) (.bool g2) (.slice p2 n2 c2) (.bool h2) (.slice o2 m2 e2)).drew.to hb3).to hb4).to hb5).to hb6).to hb7);obtain⟨q0,u0,r0,v0,s0,w0,t0,x0⟩:=b0R.cf4)))
  have j1:=(Below.tr (Below.tr (Below.tr (Below.tr (Below.tr (Below.bG (Below.bG (Below.tr (Below.tr (Below.tr bZ hA1).drew hb1) hb2) (b:=w.heap.size) (by omega) (.bool g1) (.slice p1 n1 c1) (.bool h1) (.slice o1 m1 e1)) (b:=w.heap.size+1) (by omega) (.bool g2) (.slice p2 n2 c2) (.bool h2) (.slice o2 m2 e2)).drew hb3) hb4) hb5) hb6) hb7)
  go_wp2_with fail
  exact jh (v:=.agg #[.bool g7,.slice p7 n7 c7,.bool h7,.slice o7 m7 e7]) (by simp[results,Tryz.results115,go_sem,a0,e0,b0,f0,c0,g0,d0,h0,i0,m0,j0,n0,k0,o0,l0,p0,q0,u0,r0,v0,s0,w0,t0,x0]) rfl ⟨_,rfl,by rw[<-HX.out];exact(hi7.bG b0R rfl rfl rfl rfl (.bool g7) (.slice p7 n7 c7) (.bool h7) (.slice o7 m7 e7)),(Below.bG j1 (b:=w.heap.size+1+1) (by omega) (.bool g7) (.slice p7 n7 c7) (.bool h7) (.slice o7 m7 e7))⟩
theorem b0u (v u:Value) (o1 o2:Bool) (x y:Rat) (w:World) (h1:iD w v o1 x) (h2:iD w u o2 y) (n1:Qn v 400000000) (n2:Qn u 400000000) :
  Calls Tryz.prog 149 #[v,u] w (GQ (x*y) w):=by
 obtain⟨b,p,n,c,d,o,m,e,rfl⟩:=h1.form
 obtain⟨f,i,j,k,g,r,t,a,rfl⟩:=h2.form
 have hl:=h1.kS n1 (by omega)
 have hl2:=h2.kS n2 (by omega)
 have m1:=n1.up (show 400000000<=1000000000 by omega)
 have m2:=n2.up (show 400000000<=1000000000 by omega)
 have b1:=fA x
 have b2:=eF x
 have b3:=fA y
 have b4:=eF y
 have c1:=eH x.num y.num
 have c4:=eH x.den y.den
 have HX:=bn (a0K x y)
 have hd0:=yM x y
 have bZ:Below w.heap.size w w:=dn _ _
 go_enter Tryz.func149,Tryz.ntmps149
 go_wp2_with fail
 obtain⟨hA1,y0,z0,i1⟩:=bx3 w rfl [.bool b,.slice p n c,.bool d,.slice o m e] 64 [.bool f,.slice i j k,.bool g,.slice r t a] 64 [.bool false,.slice none 0 0,.bool false,.slice none 0 0] 64
 obtain⟨a2,r2,f2,t2,j2,x2,l2,z2⟩:=y0.drew.cf4
 obtain⟨d3,m3,f3,q3,i3,s3,k3,u3⟩:=z0.drew.cf4
 have tk1:True:=trivial
 have tk2:True:=trivial
 go_region_with
  (first
   | (((have:=tk1);clear tk1;have j1:=(h1.below hA1).drew;go_at_call 119;(with_reducible refine(jD _ _ (x) _ j1 m1).mono ?_);rintro e w1 ⟨v1,rfl,hi1,hb1⟩;obtain⟨g1,p1,n1,c1,h1,o1,m1,e1,rfl⟩:=hi1.form;have dW:=(z0.drew.to hb1);obtain⟨e3,o3,h3,r3,j3,t3,l3,x3⟩:=dW.cf4;have dP:=(y0.drew.to hb1);obtain⟨d2,s2,i2,u2,k2,y2,q2,a3⟩:=dP.cf4))
   | (((have:=tk2);clear tk2;have a0l:=((h2.below hA1).drew.below hb1);have k1:=a0l;go_at_call 119;(with_reducible refine(jD _ _ (y) _ k1 m2).mono ?_);rintro e w2 ⟨v2,rfl,hi2,hb2⟩;obtain⟨g2,p2,n2,c2,h2,o2,m2,e2,rfl⟩:=hi2.form;have dL:=(dP.to hb2);obtain⟨a0,e0,b0,f0,c0,g0,d0,h0⟩:=dL.cf4;have dM:=(dW.to hb2);obtain⟨i0,m0,j0,n0,k0,o0,l0,p0⟩:=dM.cf4)))
 all_goals
  go_wp2_with fail
  have lS:=((i1.drew.to hb1).to hb2)
  have ZL:=(aK.mk (((dL.vH (.bool g1) (.slice p1 n1 c1) (.bool h1) (.slice o1 m1 e1)).fD (b:=w.heap.size+1) (by omega) (.bool g2) (.slice p2 n2 c2) (.bool h2) (.slice o2 m2 e2)).drew).bs4 (aK.mk (((dM.fD (b:=w.heap.size) (by omega) (.bool g1) (.slice p1 n1 c1) (.bool h1) (.slice o1 m1 e1)).vH (.bool g2) (.slice p2 n2 c2) (.bool h2) (.slice o2 m2 e2)).drew).bs4 (BN.of (((lS.fD (b:=w.heap.size) (by omega) (.bool g1) (.slice p1 n1 c1) (.bool h1) (.slice o1 m1 e1)).fD (b:=w.heap.size+1) (by omega) (.bool g2) (.slice p2 n2 c2) (.bool h2) (.slice o2 m2 e2)).drew))))
  have d1:dQ (w.heap.size+1+1) (aK (BS4 w.heap.size (.bool g1) (.slice p1 n1 c1) (.bool h1) (.slice o1 m1 e1)) (aK (BS4 (w.heap.size+1) (.bool g2) (.slice p2 n2 c2) (.bool h2) (.slice o2 m2 e2)) (BN (w.heap.size+1+1)))):=(aK.hc (BS4.hc (by omega)) (aK.hc (BS4.hc (by omega)) BN.hc))
  have tk3:True:=trivial
  have tk4:True:=trivial
  have tk5:True:=trivial
  go_region_held3 (aK (BS4 w.heap.size (.bool g1) (.slice p1 n1 c1) (.bool h1) (.slice o1 m1 e1)) (aK (BS4 (w.heap.size+1) (.bool g2) (.slice p2 n2 c2) (.bool h2) (.slice o2 m2 e2)) (BN (w.heap.size+1+1)))) (first|with_reducible exact ZL|with_reducible exact iC.go (aK.hk BS4.hk (aK.hk BS4.hk BN.hk)) (by assumption) (by assumption)|with_reducible exact dQ.go4 d1 (by assumption)|(simp;done))
   (first
    | (((have:=tk3);clear tk3;have a1:=(hi1.below hb2);have l1:=((a1.bG dL rfl rfl rfl rfl (.bool g1) (.slice p1 n1 c1) (.bool h1) (.slice o1 m1 e1)).bG (dM.fD (b:=w.heap.size) (by omega) (.bool g1) (.slice p1 n1 c1) (.bool h1) (.slice o1 m1 e1)) rfl rfl rfl rfl (.bool g2) (.slice p2 n2 c2) (.bool h2) (.slice o2 m2 e2)).drew.num.raw;have q1:=((hi2.bG dL rfl rfl rfl rfl (.bool g1) (.slice p1 n1 c1) (.bool h1) (.slice o1 m1 e1)).bG (dM.fD (b:=w.heap.size) (by omega) (.bool g1) (.slice p1 n1 c1) (.bool h1) (.slice o1 m1 e1)) rfl rfl rfl rfl (.bool g2) (.slice p2 n2 c2) (.bool h2) (.slice o2 m2 e2)).drew.num.raw;go_at_call 136;(with_reducible refine(mul_any _ _ (((x)).num) (((y)).num) _ l1 q1 (by omega) (by omega)).mono ?_);rintro e w3 ⟨v3,rfl,hi3,hb3⟩;obtain⟨g3,p3,n3,c3,rfl⟩:=hi3.form))
    | (((have:=tk4);clear tk4;have x1:=(((a1.bG dL rfl rfl rfl rfl (.bool g1) (.slice p1 n1 c1) (.bool h1) (.slice o1 m1 e1)).bG (dM.fD (b:=w.heap.size) (by omega) (.bool g1) (.slice p1 n1 c1) (.bool h1) (.slice o1 m1 e1)) rfl rfl rfl rfl (.bool g2) (.slice p2 n2 c2) (.bool h2) (.slice o2 m2 e2)).drew.below hb3);have r1:=x1.den.raw;have y1:=(((hi2.bG dL rfl rfl rfl rfl (.bool g1) (.slice p1 n1 c1) (.bool h1) (.slice o1 m1 e1)).bG (dM.fD (b:=w.heap.size) (by omega) (.bool g1) (.slice p1 n1 c1) (.bool h1) (.slice o1 m1 e1)) rfl rfl rfl rfl (.bool g2) (.slice p2 n2 c2) (.bool h2) (.slice o2 m2 e2)).drew.below hb3);have s1:=y1.den.raw;go_at_call 136;(with_reducible refine(mul_any _ _ ((((x)).den:Int)) ((((y)).den:Int)) _ r1 s1 (by omega) (by omega)).mono ?_);rintro e w4 ⟨v4,rfl,hi4,hb4⟩;obtain⟨g4,p4,n4,c4,rfl⟩:=hi4.form))
    | (((have:=tk5);clear tk5;have z1:=(hi3.below hb4);have t1:=z1;have u1:=hi4;go_at_call 151;(with_reducible refine(zG _ _ ((((x)).num)*(((y)).num)) (((((x)).den:Int))*((((y)).den:Int))) _ t1 u1 (by omega) (by omega) hd0).mono ?_);rintro e w5 ⟨v5,rfl,hi5,hb5⟩;obtain⟨g5,p5,n5,c5,h5,o5,m5,e5,rfl⟩:=hi5.form;have xX:=(((((lS.fD (b:=w.heap.size) (by omega) (.bool g1) (.slice p1 n1 c1) (.bool h1) (.slice o1 m1 e1)).fD (b:=w.heap.size+1) (by omega) (.bool g2) (.slice p2 n2 c2) (.bool h2) (.slice o2 m2 e2)).drew.to hb3).to hb4).to hb5);obtain⟨q0,u0,r0,v0,s0,w0,t0,x0⟩:=xX.cf4)))
  have f1:=(Below.tr (Below.tr (Below.tr (Below.bG (Below.bG (Below.tr (Below.tr (Below.tr bZ hA1).drew hb1) hb2) (b:=w.heap.size) (by omega) (.bool g1) (.slice p1 n1 c1) (.bool h1) (.slice o1 m1 e1)) (b:=w.heap.size+1) (by omega) (.bool g2) (.slice p2 n2 c2) (.bool h2) (.slice o2 m2 e2)).drew hb3) hb4) hb5)
  go_wp2_with fail
  exact jh (v:=.agg #[.bool g5,.slice p5 n5 c5,.bool h5,.slice o5 m5 e5]) (by simp[results,Tryz.results149,go_sem,a0,e0,b0,f0,c0,g0,d0,h0,i0,m0,j0,n0,k0,o0,l0,p0,q0,u0,r0,v0,s0,w0,t0,x0]) rfl ⟨_,rfl,by rw[<-HX.out];exact(hi5.bG xX rfl rfl rfl rfl (.bool g5) (.slice p5 n5 c5) (.bool h5) (.slice o5 m5 e5)),(Below.bG f1 (b:=w.heap.size+1+1) (by omega) (.bool g5) (.slice p5 n5 c5) (.bool h5) (.slice o5 m5 e5))⟩
theorem a8w (v u:Value) (x y:Rat) (w:World) (h1:RQ w v x) (h2:RQ w u y) (l1:rsz x<=400000000) (l2:rsz y<=400000000) :
 Calls Tryz.prog 115 #[v,u] w (GQ (x+y) w):=a1p v u true true x y w h1.raw h2.raw (h1.qn l1) (h2.qn l2)
theorem b0t (v u:Value) (x y:Rat) (w:World) (h1:RQ w v x) (h2:RQ w u y) (l1:rsz x<=400000000) (l2:rsz y<=400000000) :
 Calls Tryz.prog 149 #[v,u] w (GQ (x*y) w):=b0u v u true true x y w h1.raw h2.raw (h1.qn l1) (h2.qn l2)
end Go.Proofs.YtgplhbhfdgempaaGreat
