/-
  Lemmas for the statements about datums, part 21 of 37.
-/
import Derived.Test.YtgplhbhfdgempaaGreatDb20
namespace Go.Proofs.YtgplhbhfdgempaaGreat
open Go Go.RowKit
section
set_option linter.unusedSimpArgs false
set_option linter.unusedVariables false
set_option maxRecDepth 20000
def lkP:(k:LK)->k.ty.den->Nat->Res->Prop
 | .row e t,y,v,.row e' t' xs v'=>match jS (.list t') (.list t) xs with
  | some ys=>if e'==e&&gv v'==gv v then y=ys else False
  | none=>False
 | .mat e e2 t,y,v,.mat e' e2' t' none xss v'=>match jS (.list (.list t')) (.list (.list t)) xss with
  | some yss=>if e'==e&&e2'==e2&&gv v'==gv v then y=yss else False
  | none=>False
 | _,_,_,_=>False
def lkG (k:LK) (y:k.ty.den) (ρ:Nat->Res) (only:Option Nat):K->Prop
 | .own r v=>if only.all (fun q=>q==r) then lkP k y v (ρ r) else False
 | _=>False
def mkP (k:LK) (y:k.ty.den) (G:Nat->K) (ρ:Nat->Res):List ResultVar->Prop
 | [.tmp s]=>lkG k y ρ none (G s)
 | _=>False
def c3M (k:LK) (y:k.ty.den) (rs:List ResultVar):Exit->Gam->Rho->Prop
 | .normal,G,R=>mkP k y (bZ G) (bG R) rs
 | .ret,G,R=>mkP k y (bZ G) (bG R) rs
 | _,_,_=>False
def a4d (B:Book) (k:LK) (x:k.ty.den) (G:Nat->K):(Nat->Res)->(ts:List Ty)->List ResultVar->(nest ts).den->Prop
 | ρ,[],[],_=>lkG k x ρ (some 0) (G 0)
 | ρ,t::ts,r::rs,y=>match a2a B G ρ t r with
  | some (p,l)=>match pY p.t t with
   | some q=>aW (q.c p.x)/\q.f p.x=y.1/\a4d B k x G (after ρ l) ts rs y.2
   | none=>False
  | none=>False
 | _,_,_,_=>False
def c3N (B:Book) (k:LK) (x:k.ty.den) (ts:List Ty) (rs:List ResultVar) (y:(nest ts).den):Exit->Gam->Rho->Prop
 | .normal,G,R=>a4d B k x (bZ G) (bG R) ts rs y
 | .ret,G,R=>a4d B k x (bZ G) (bG R) ts rs y
 | _,_,_=>False
section
variable {B:Book} {W:World}
theorem b7P {k:LK} {y:k.ty.den} {v:Nat} {x:Res} (h:lkP k y v x):∃ v0,x=k.res y v0/\Res.isRow v x:=by
 cases k with
 | row e t =>
  cases x<;>first|exact h.elim|skip
  rename_i e' t' xs v'
  simp only[lkP] at h
  split at h<;>first|exact h.elim|skip
  rename_i ys hc
  split at h<;>first|exact h.elim|skip
  rename_i hb
  simp only[ak,jd] at hb
  obtain⟨rfl,hb⟩:=hb
  obtain⟨e9,hc⟩:=fJ hc
  simp only[Ty.list.injEq] at e9
  subst e9
  have hc:xs=ys:=hc
  subst hc
  subst h
  exact⟨v',rfl,hb⟩
 | mat e e2 t =>
  cases x<;>first|exact h.elim|skip
  rename_i e' e2' t' ids xss v'
  cases ids<;>first|exact h.elim|skip
  simp only[lkP] at h
  split at h<;>first|exact h.elim|skip
  rename_i yss hc
  split at h<;>first|exact h.elim|skip
  rename_i hb
  simp only[ak,jd] at hb
  obtain⟨⟨rfl,rfl⟩,hb⟩:=hb
  obtain⟨e9,hc⟩:=fJ hc
  simp only[Ty.list.injEq] at e9
  subst e9
  have hc:xss=yss:=hc
  subst hc
  subst h
  exact⟨v',rfl,hb⟩
theorem b1T {k:LK} {y:k.ty.den} {ρ:Nat->Res} {o:Option Nat} {k0:K} {E:Env} {w:World} {v:Value} (h:lkG k y ρ o k0) (hk:k0.holds E ρ w v):∃ r v0,o.all (fun q=>q==r)=true/\ρ r=k.res y v0/\v=E.sl r:=by
 cases k0<;>first|exact h.elim|skip
 rename_i r ver
 simp only[lkG] at h
 split at h<;>first|exact h.elim|skip
 rename_i ho
 obtain⟨v0,h1,h2⟩:=b7P h
 exact⟨r,v0,ho,h1,hk h2⟩
theorem a7U {G:Nat->K} {w:World} {a:Act} {k:LK} {x:k.ty.den}:∀ {ts:List Ty} {rs:List ResultVar} {y:(nest ts).den} {ρ:Nat->Res} {E:Env},a4d B k x G ρ ts rs y->Mem E ρ W w->Fits E ρ w B a G ->
  ∃ vs E' ρ' v0,mZ (fun r v=>(FB B.P a r).run B.P w=.ok v w) rs vs/\E'.fix=E.fix/\Mem E' ρ' W w/\kL (fz w E') w ts vs y/\ρ' 0=k.res x v0/\a.eval (.tmp 0)=E'.sl 0/\∀ q,fz w E q->fz w E' q
 | [],[],y,ρ,E,h,hM,hf=>by
  obtain⟨r,v0,h1,h2,h3⟩:=b1T h (hf.holds 0)
  have h1:0=r:=by simpa using h1
  subst h1
  exact⟨[],E,ρ,v0,.nil,rfl,hM,rfl,h2,h3,fun _ h=>h⟩
 | t::ts,r::rs,y,ρ,E,h,hM,hf=>by
  simp only[a4d] at h
  split at h<;>first|exact h.elim|skip
  rename_i p l h1
  split at h<;>first|exact h.elim|skip
  rename_i q hq
  obtain⟨hc,hy,h2⟩:=h
  obtain⟨v,E1,k1,m1,m2,m3⟩:=a0p h1 hM hf
  obtain⟨vs,E2,ρ2,v0,j1,j2,j5,j3,j6,j7,j4⟩:=a7U h2 m1 ⟨hf.size,hf.defers,fun s=>m2.wf _ (hf.wf s),fun s=>m2.holds _ _ (hf.wf s) (hf.holds s),fun s hs=>by rw[m2.par];exact hf.par s hs⟩
  refine⟨v::vs,E2,ρ2,v0,.cons k1 j1,j2.trans m2.fix,j5,⟨v,vs,rfl,?_,j3⟩,j6,j7,fun q hq=>j4 q (m2.fz q hq)⟩
  obtain⟨cs,rfl,hr⟩:=iF j4 (kQ.refl _ _) m3
  refine⟨cs,by unfold Ty.toV;rw[yF _ _ _ hq],?_⟩
  rw[<-hy]
  exact zN _ _ _ hq cs _ hr hc
 | [],_::_,y,ρ,E,h,hM,hf=>by simp[a4d] at h
 | _::_,[],y,ρ,E,h,hM,hf=>by simp[a4d] at h
theorem TU:∀ (ts:List Ty) (x:(nest ts).den) (i s:Nat),i+ts.length<=s->bZ (zL i ts x) s=.any
 | [],x,i,s,_=>rfl
 | t::ts,x,i,s,hi=>by
  simp only[List.length_cons] at hi
  simp only[zL,bZ]
  rw[dw (by omega)]
  exact TU ts x.2 (i+1) s (by omega)
theorem b7Z (hB:B.Ok) (hm:B.P.follows .mixedOrders=true) {f:FuncId} {fn:Func} {code:Code} {k:LK} {args:List Ty} {pre:(nest args).den->Prop} {made:(nest args).den->k.ty.den} (hf:B.P.funcs[f]?=some fn) (hb:fn.body=some code) (hN:fn.ntmps=B.N) (hkeep:B.keep=fun _=>false) (hargs:args.length<=fn.ntmps) (A:(nest args).den->List Ann)
  (h:∀ x,pre x->vwp B code (A x) (c3M k (made x) fn.results.toList) (zL 0 args x) []):NOk B.P f (.mk k args pre made):=by
 intro F w vs x hF hvs hpre
 have hl:=NY hvs
 let E:Env:=⟨fun _=>none,fun _=>undef,fun q=>F q\/w.heap.size<=q,fun _ _=>undef,fun _=>False,fun _=>undef⟩
 have hhas:∀ r j q,¬ E.has r j q:=fun r j q h=>by cases j<;>cases h
 have hFz:∀ q,F q->fz w E q:=fun q hq=>vX (hF q hq) (.inl hq) (fun r j=>hhas r j q)
 have hM:Mem E (bG []) w w:=⟨⟨rfl,rfl,rfl,aj _,fun _ _ _=>rfl⟩,fun r=>rfl,fun r j r' j' b e=>(hhas r j b e).elim,fun r j b e=>(hhas r j b e).elim,fun q hq=>hq.elim (fun h=>h.elim) .inr,fun r i _=>rfl,fun r k e=>(by cases e),fun b o n h=>h⟩
 refine calls_of_wp hf hb (wp_mono (a6v (W:=w) (base:=E.fix) hB hm code (h x hpre) ⟨E,rfl,hM,?_⟩) (fun e a w' hq=>?_))
 ·refine⟨by simp[hN];omega,rfl,fun s=>(vU hFz 0 s hvs).1,fun s=>?_,fun s hs=>by rw[hkeep] at hs;cases hs⟩
  have h1:=(vU (ρ:=bG []) hFz 0 s hvs).2.1 (pq _)
  rw[Nat.sub_zero] at h1
  by_cases hs:s<vs.length
  ·have:(({ tmps:=vs.toArray++Array.replicate (fn.ntmps-vs.toArray.size) undef,defers:=[] }:Act).eval (.tmp s))=vs.getD s undef:=by
    simp[Act.eval,jk,Array.getElem?_append,hs]
   rw[this];exact h1
  ·rw[TU args x 0 s (by omega)];trivial
 ·obtain⟨G',R',k1,_,E',k2,k3,k4⟩:=hq
  have fin:mkP k (made x) (bZ G') (bG R') fn.results.toList->a.defers=[]/\∃ v,(results fn a.tmps).run B.P w'=.ok v w'/\∃ v' E1 ρ1 q v0,Ending.returned v=.returned v'/\Mem E1 ρ1 w w'/\(∀ q,¬ E1.rM q)/\ρ1 q=k.res (made x) v0/\v'=E1.sl q:=fun hr=>by
   match hrs:fn.results.toList,hr with
   | [.tmp s],hr =>
    obtain⟨r,v0,_,h2,h3⟩:=b1T hr (k4.holds s)
    refine⟨k4.defers,_,FD (vs:=[a.eval (.tmp s)]) (by rw[hrs];exact .cons rfl .nil),_,E',bG R',r,v0,rfl,k3,fun q=>?_,h2,h3⟩
    rw[show E'.rM=E.rM from rD Fix.rM k2]
    exact id
  cases e with
  | normal=>exact fin k1
  | ret=>exact fin k1
  | exit i=>exact k1.elim
  | goto l=>exact k1.elim
  | panic ch=>exact k1.elim
  | outgrown=>exact k1.elim
theorem b4Z (hB:B.Ok) (hm:B.P.follows .mixedOrders=true) {f:FuncId} {fn:Func} {code:Code} {k:LK} {args res:List Ty} {pre:k.ty.den->(nest args).den->Prop} {out:k.ty.den->(nest args).den->k.ty.den} {g:k.ty.den->(nest args).den->(nest res).den} (hf:B.P.funcs[f]?=some fn) (hb:fn.body=some code) (hN:fn.ntmps=B.N) (hkeep:B.keep=fun s=>s==0) (hargs:args.length+1<=fn.ntmps) (A:k.ty.den->(nest args).den->List Ann)
  (h:∀ x y,pre x y->vwp B code (A x y) (c3N B k (out x y) res fn.results.toList (g x y)) ((0,.own 0 0)::zL 1 args y) [(0,k.res x 0)]):NOk B.P f (.chg k args res pre out g):=by
 intro F w s I vs x y hF hM hvs hpre
 have hl:=NY hvs
 have hR:bG [(0,k.res x 0)]=a3P (k.res x 0):=by
  funext r
  simp only[bG,a3P]
 have hhas:∀ r j q,(Env.of F w s I).has r j q->EP s I q:=fun r j q h=>by
  cases j with
  | zero =>
   have h:(if r=0 then cZ s else none)=some q:=h
   split at h
   ·exact .inl h
   ·cases h
  | succ i =>
   have h:cZ (if r=0 then I i else undef)=some q:=h
   split at h
   ·exact .inr ⟨i,h⟩
   ·cases h
 have hFz:∀ q,F q->fz w (Env.of F w s I) q:=fun q hq=>vX (hF q hq).1 (.inl hq) (fun r j h=>(hF q hq).2 (hhas r j q h))
 have hev:∀ q,q<(s::vs).length->(({ tmps:=(s::vs).toArray++Array.replicate (fn.ntmps-(s::vs).toArray.size) undef,defers:=[] }:Act).eval (.tmp q))=(s::vs).getD q undef:=fun q hq=>by
  simp only[Act.eval,jk,ay]
  rw[Array.getElem?_append_left (by simpa using hq)]
  simp
 refine calls_of_wp hf hb (wp_mono (a6v (W:=w) (base:=(Env.of F w s I).fix) hB hm code (h x y hpre) ⟨Env.of F w s I,rfl,by rw[hR];exact hM,?_⟩) (fun e a w' hq=>?_))
 ·refine⟨by simp[hN];omega,rfl,fun q=>?_,fun q=>?_,fun q hq=>?_⟩
  ·by_cases e:q=0
   ·subst e
    show Res.fU 0 (bG [(0,k.res x 0)] 0)
    cases k<;>exact pq _
   ·show (bZ ((0,.own 0 0)::zL 1 args y) q).wf _
    simp only[bZ]
    rw[dw e]
    exact(vU hFz 1 q hvs).1
  ·by_cases e:q=0
   ·subst e
    rw[hev 0 (by simp)]
    intro _
    rfl
   ·show (bZ ((0,.own 0 0)::zL 1 args y) q).holds _ _ _ _
    simp only[bZ]
    rw[dw e]
    by_cases hs:q<(s::vs).length
    ·rw[hev q hs]
     have h1:=(vU (ρ:=bG [(0,k.res x 0)]) hFz 1 q hvs).2.1 (by omega)
     have e2:q=(q-1)+1:=by omega
     rw[e2,List.getD_cons_succ]
     rw[<-e2]
     exact h1
    ·simp only[List.length_cons] at hs
     rw[TU args y 1 q (by omega)];trivial
  ·rw[hkeep] at hq
   have hq:q=0:=by simpa using hq
   subst hq
   exact hev 0 (by simp)
 ·obtain⟨G',R',k1,_,E',k2,k3,k4⟩:=hq
  have fin:a4d B k (out x y) (bZ G') (bG R') res fn.results.toList (g x y)->a.defers=[]/\∃ v,(results fn a.tmps).run B.P w'=.ok v w'/\∃ v' E1 ρ1 v0,Ending.returned v=.returned v'/\Mem E1 ρ1 w w'/\E1.base=(Env.of F w s I).base/\E1.rM=EP s I/\ρ1 0=k.res (out x y) v0/\E1.sl 0=s/\sQ (fz w' E1) w' res v' (g x y):=fun hr=>by
   obtain⟨us,E2,ρ2,v0,j1,j2,j5,j3,j6,j7,_⟩:=a7U hr k3 k4
   have hp:=k4.par 0 (by rw[hkeep];rfl)
   refine⟨k4.defers,_,FD j1,_,E2,ρ2,v0,rfl,j5,rD Fix.base (j2.trans k2),rD Fix.rM (j2.trans k2),j6,?_,b2L j3⟩
   rw[<-j7,hp,show E'.par=(Env.of F w s I).par from rD Fix.par k2]
   rfl
  cases e with
  | normal=>exact fin k1
  | ret=>exact fin k1
  | exit i=>exact k1.elim
  | goto l=>exact k1.elim
  | panic ch=>exact k1.elim
  | outgrown=>exact k1.elim
end
end
set_option linter.unusedSimpArgs false
set_option linter.unusedVariables false
set_option maxRecDepth 20000
noncomputable def b3I (rt:Ty):Nat->TypeId->Option Ty
 | 0,_=>none
 | n+1,t=>if t=64 then some rt else if t=62 then some (.lf .big) else match Tryz.prog.underlying t with
  | some .bool=>some .bool
  | some (.int k)=>some (.int k)
  | some .string=>some (.lf .str)
  | some (.slice e)=>(b3I rt n e).map .list
  | some (.array m e)=>(b3I rt n e).map (.arr m)
  | some (.struct fs)=>fs.toList.foldr (fun f acc=>match b3I rt n f.type,acc with
   | some a,some b=>some (.pair a b)
   | _,_=>none) (some .unit)
  | _=>none
structure Hint where
 wr:List Nat
 kb:List Nat:=[]
 mt:List (Nat × Ty):=[]
def b6m:List (Nat × Ty)->Nat->Option Ty
 | [],_=>none
 | (s,t)::l,q=>if q=s then some t else b6m l q
noncomputable def told (h:Hint) (nc:FuncId->List DF):Told:=⟨b3I (.lf .aU) 8,b3I (.lf .rat) 8,fun s=>h.wr.contains s || h.kb.contains s,fun s=>h.kb.contains s,b6m h.mt,nc⟩
structure Lib where
 l:List (FuncId × Ctr)
 ok:∀ p ∈ l,aY Tryz.prog p.1 p.2
 n:List (FuncId × DF)
 okn:∀ p ∈ n,NOk Tryz.prog p.1 p.2
def QW {γ:Type}:List (FuncId × γ)->FuncId->List γ
 | [],_=>[]
 | (f,c)::l,g=>if g=f then c::QW l g else QW l g
theorem vK {γ:Type}:∀ {l:List (FuncId × γ)} {g:FuncId} {c:γ},c ∈ QW l g->(g,c) ∈ l
 | (f,c')::l,g,c,h=>by
  simp only[QW] at h
  split at h
  ·rename_i e
   rcases oq.1 h with rfl|h
   ·rw[e];exact jX ..
   ·exact iy _ (vK h)
  ·exact iy _ (vK h)
 | [],g,c,h=>by cases h
def Lib.nil:Lib:=⟨[],(fun p hp=>by cases hp),[],fun p hp=>by cases hp⟩
def Lib.add (L:Lib) (f:FuncId) (c:Ctr) (h:aY Tryz.prog f c):Lib:=⟨(f,c)::L.l,fun p hp=>(oq.1 hp).elim (fun e=>by subst e;exact h) (fun hp=>L.ok p hp),L.n,L.okn⟩
def Lib.c4k (L:Lib) (f:FuncId) (c:DF) (h:NOk Tryz.prog f c):Lib:=⟨L.l,L.ok,(f,c)::L.n,fun p hp=>(oq.1 hp).elim (fun e=>by subst e;exact h) (fun hp=>L.okn p hp)⟩
def Lib.ad (L:Lib) {f:FuncId} {c:Ctr} (h:aY Tryz.prog f c):Lib:=L.add f c h
def Lib.an (L:Lib) {f:FuncId} {c:DF} (h:NOk Tryz.prog f c):Lib:=L.c4k f c h
def nil0:Lib:=Lib.nil
noncomputable def Lib.book (L:Lib) (N:Nat) (h:Hint):Book:=⟨Tryz.prog,QW L.l,told h (QW L.n),N,fun _=>false⟩
noncomputable def Lib.a6G (L:Lib) (N:Nat) (h:Hint):Book:=⟨Tryz.prog,QW L.l,told h (QW L.n),N,fun s=>s==0⟩
theorem Lib.good (L:Lib) (N:Nat) (wr:Hint):(L.book N wr).Ok:=⟨fun g c h=>L.ok (g,c) (vK h),fun g c h=>L.okn (g,c) (vK h)⟩
theorem Lib.c2P (L:Lib) (N:Nat) (wr:Hint):(L.a6G N wr).Ok:=⟨fun g c h=>L.ok (g,c) (vK h),fun g c h=>L.okn (g,c) (vK h)⟩
theorem mixed:Tryz.prog.follows .mixedOrders=true:=by kernel_rfl
theorem bH (L:Lib) {f:FuncId} {fn:Func} {code:Code} {c:Ctr} (hint:Hint) (hf:Tryz.prog.funcs[f]?=some fn) (hb:fn.body=some code) (hargs:c.args.length<=fn.ntmps) (A:(nest c.args).den->List Ann)
  (h:∀ x,c.pre x->vwp (L.book fn.ntmps hint) code (A x) (b8i (L.book fn.ntmps hint) c.res fn.results.toList (c.fn x)) (zL 0 c.args x) []):aY Tryz.prog f c :=
 b7d (B:=L.book fn.ntmps hint) (L.good fn.ntmps hint) mixed hf hb rfl rfl hargs A h
theorem lX (L:Lib) {f:FuncId} {fn:Func} {code:Code} {c:Ctr} (wr:List Nat) (hf:Tryz.prog.funcs[f]?=some fn) (hb:fn.body=some code) (hargs:c.args.length<=fn.ntmps) (A:(nest c.args).den->List Ann)
  (h:∀ x,c.pre x->vwp (L.book fn.ntmps ⟨wr,[],[]⟩) code (A x) (b8i (L.book fn.ntmps ⟨wr,[],[]⟩) c.res fn.results.toList (c.fn x)) (zL 0 c.args x) []):aY Tryz.prog f c :=
 bH L ⟨wr,[],[]⟩ hf hb hargs A h
theorem sK (L:Lib) {f:FuncId} {fn:Func} {code:Code} {k:LK} {args:List Ty} {pre:(nest args).den->Prop} {made:(nest args).den->k.ty.den} (hint:Hint) (hf:Tryz.prog.funcs[f]?=some fn) (hb:fn.body=some code) (hargs:args.length<=fn.ntmps) (A:(nest args).den->List Ann)
  (h:∀ x,pre x->vwp (L.book fn.ntmps hint) code (A x) (c3M k (made x) fn.results.toList) (zL 0 args x) []):NOk Tryz.prog f (.mk k args pre made) :=
 b7Z (B:=L.book fn.ntmps hint) (L.good fn.ntmps hint) mixed hf hb rfl rfl hargs A h
theorem a7E (L:Lib) {f:FuncId} {fn:Func} {code:Code} {k:LK} {args res:List Ty} {pre:k.ty.den->(nest args).den->Prop} {out:k.ty.den->(nest args).den->k.ty.den} {g:k.ty.den->(nest args).den->(nest res).den} (hint:Hint) (hf:Tryz.prog.funcs[f]?=some fn) (hb:fn.body=some code) (hargs:args.length+1<=fn.ntmps) (A:k.ty.den->(nest args).den->List Ann)
  (h:∀ x y,pre x y->vwp (L.a6G fn.ntmps hint) code (A x y) (c3N (L.a6G fn.ntmps hint) k (out x y) res fn.results.toList (g x y)) ((0,.own 0 0)::zL 1 args y) [(0,k.res x 0)]):NOk Tryz.prog f (.chg k args res pre out g) :=
 b4Z (B:=L.a6G fn.ntmps hint) (L.c2P fn.ntmps hint) mixed hf hb rfl rfl hargs A h
theorem xK {F:Nat->Prop} {w:World} {v:Value} {x:Rat} (h:kM F w (.lf .rat) v x):RQ w v x:=by
 obtain⟨cs,rfl,h2⟩:=h
 exact h2
theorem a8r {F:Nat->Prop} {w:World} {v:Value} {x:Rat} (h:RQ w v x):kM F w (.lf .rat) v x:=by
 obtain⟨b,p,n,c,b',p',n',c',rfl⟩:=h.form
 exact⟨_,rfl,h⟩
theorem b3K {F:Nat->Prop} {w:World} (b:Bool):kM F w .bool (.bool b) b:=⟨_,rfl,rfl⟩
theorem a4V {F:Nat->Prop} {w:World} {v:Value} {b:Bool} (h:kM F w .bool v b):v=.bool b:=by
 obtain⟨cs,rfl,h2⟩:=h
 rw[show cs=_ from h2];rfl
theorem a4A {F:Nat->Prop} {w:World} {k:IntKind} (b:Int):kM F w (.int k) (.int k b) b:=⟨_,rfl,rfl⟩
theorem c3s {F:Nat->Prop} {w:World} {k:IntKind} {v:Value} {b:Int} (h:kM F w (.int k) v b):v=.int k b:=by
 obtain⟨cs,rfl,h2⟩:=h
 rw[show cs=_ from h2];rfl
abbrev tQ:Ty:=.lf .rat
abbrev tI:Ty:=.int .i64
def cQ2 (pre:Rat->Rat->Prop) (g:Rat->Rat->Rat):Ctr:=⟨[tQ,tQ],[tQ],fun x=>pre x.1 x.2.1,fun x=>(g x.1 x.2.1,())⟩
theorem OH {f:FuncId} {pre:Rat->Rat->Prop} {g:Rat->Rat->Rat} (h:∀ (v u:Value) (x y:Rat) (w:World),RQ w v x->RQ w u y->pre x y->Calls Tryz.prog f #[v,u] w (GQ (g x y) w)):aY Tryz.prog f (cQ2 pre g):=by
 intro F w vs x hF hvs hp
 obtain⟨v,vs',rfl,h1,u,vs'',rfl,h2,h3⟩:=hvs
 have h3:vs''=[]:=h3
 subst h3
 refine(h v u x.1 x.2.1 w (xK h1) (xK h2) hp).mono ?_
 rintro e w' ⟨r,rfl,hr,hb⟩
 exact⟨r,rfl,a8r hr,hb⟩
def cQ1 (pre:Rat->Prop) (g:Rat->Rat):Ctr:=⟨[tQ],[tQ],fun x=>pre x.1,fun x=>(g x.1,())⟩
theorem b6U {f:FuncId} {pre:Rat->Prop} {g:Rat->Rat} (h:∀ (v:Value) (x:Rat) (w:World),RQ w v x->pre x->Calls Tryz.prog f #[v] w (GQ (g x) w)):aY Tryz.prog f (cQ1 pre g):=by
 intro F w vs x hF hvs hp
 obtain⟨v,vs',rfl,h1,h3⟩:=hvs
 have h3:vs'=[]:=h3
 subst h3
 refine(h v x.1 w (xK h1) hp).mono ?_
 rintro e w' ⟨r,rfl,hr,hb⟩
 exact⟨r,rfl,a8r hr,hb⟩
def cIQ (pre:Int->Prop) (g:Int->Rat):Ctr:=⟨[tI],[tQ],fun x=>pre x.1,fun x=>(g x.1,())⟩
theorem b0n {f:FuncId} {pre:Int->Prop} {g:Int->Rat} (h:∀ (x:Int) (w:World),pre x->Calls Tryz.prog f #[.int .i64 x] w (GQ (g x) w)):aY Tryz.prog f (cIQ pre g):=by
 intro F w vs x hF hvs hp
 obtain⟨v,vs',rfl,h1,h3⟩:=hvs
 have h3:vs'=[]:=h3
 subst h3
 rw[c3s h1]
 refine(h x.1 w hp).mono ?_
 rintro e w' ⟨r,rfl,hr,hb⟩
 exact⟨r,rfl,a8r hr,hb⟩
set_option maxRecDepth 100000
set_option maxHeartbeats 4000000
theorem wF {n d:Int} {k:Nat} (hd:d≠0) (h:isz d<=k):isz ((Int.gcd n d:Nat):Int)<=k:=by
 refine jc (VZ ?_) h
 rw[Int.natAbs_natCast]
 have:=Nat.gcd_le_right n.natAbs (show 0<d.natAbs by omega)
 exact this
theorem gcd_ne {n d:Int} (hd:d≠0):((Int.gcd n d:Nat):Int)≠0:=by
 have:0<Int.gcd n d:=Int.gcd_pos_of_ne_zero_right _ hd
 omega
theorem LQ {n d:Int} (hd:0<d):n.fdiv ((Int.gcd n d:Nat):Int)=(Rat.divInt n d).num/\d.fdiv ((Int.gcd n d:Nat):Int)=(Rat.divInt n d).den:=by
 rw[qU hd,qR hd,Int.fdiv_eq_ediv_of_nonneg _ (by omega),Int.fdiv_eq_ediv_of_nonneg _ (by omega)]
 exact⟨rfl,rfl⟩
theorem a1m {n d:Int} (hd:d<0):(-n).fdiv ((Int.gcd (-n) (-d):Nat):Int)=(Rat.divInt n d).num/\(-d).fdiv ((Int.gcd (-n) (-d):Nat):Int)=(Rat.divInt n d).den:=by
 rw[<-vV n d]
 exact LQ (by omega)
theorem XB (v u:Value) (x y:Int) (w:World) (hv:dY w v x) (hu:dY w u y) (hl:isz x<=1000000000) (hl2:isz y<=1000000000) (hd:0<y) :
  Calls Tryz.prog 151 #[v,u] w (GQ (Rat.divInt x y) w):=by
 obtain⟨b,p,n,c,rfl⟩:=hv.form
 obtain⟨d,o,m,e,rfl⟩:=hu.form
 have HX:=au (LQ (n:=x) hd)
 have hn1:isz (-x)<=1000000000:=by rw[oD];omega
 have hn2:isz (-y)<=1000000000:=by rw[oD];omega
 have hlg:isz ((Int.gcd x y:Nat):Int)<=1000000000:=wF (by omega) (by assumption)
 have hg0:((Int.gcd x y:Nat):Int)≠0:=gcd_ne (by omega)
 have hsg:decide (sgn y<0)=false:=by rw[BI hd];rfl
 clear hd
 have dG:Below w.heap.size w w:=bf _ _
 go_enter Tryz.func151,Tryz.ntmps151
 go_wp2_with fail
 obtain⟨hA1,w0,x0,y0⟩:=bx3 w rfl [.bool b,.slice p n c] 62 [.bool d,.slice o m e] 62 [.bool false,.slice none 0 0,.bool false,.slice none 0 0] 64
 have a1:=(hu.below hA1).raw
 (with_reducible refine(sW _ (y) _ a1).mono ?_)
 rintro e w1 ⟨rfl,hb1⟩
 have dR:=(w0.to hb1)
 obtain⟨j1,m1⟩:=dR.cs2
 have eU:=(x0.to hb1)
 obtain⟨p1,r1⟩:=eU.cs2
 go_wp2_with fail
 have sH:=((hv.below hA1).below hb1)
 have b1:=sH.raw
 have kS:=((hu.below hA1).below hb1)
 have c1:=kS.raw
 (with_reducible refine(a1r _ _ (x) (y) _ b1 c1 (by omega) (by omega)).mono ?_)
 rintro e w2 ⟨v2,rfl,hi2,hb2⟩
 obtain⟨g2,p2,n2,c2,rfl⟩:=hi2.form
 have dM:=(dR.to hb2)
 obtain⟨k1,n1⟩:=dM.cs2
 have q0:=(dM).1
 have dN:=(eU.to hb2)
 have r0:=(dN).1
 have mO:=((y0.to hb1).to hb2)
 have s0:=(mO).1
 go_wp2_with fail
 have KA:=(sH.below hb2)
 obtain⟨hA2,z0⟩:=bx1 w2 rfl [.bool g2,.slice p2 n2 c2] 62
 have d1:=(KA.below hA2).raw
 have e1:=(hi2.below hA2).raw
 (with_reducible refine(zU _ _ (x) ((Int.gcd (x) (y):Int)) _ d1 e1 (by omega) hlg hg0).mono ?_)
 rintro e w3 ⟨v3,u3,rfl,hi3,hj3,hb3⟩
 obtain⟨g3,p3,n3,c3,rfl⟩:=hi3.form
 obtain⟨h3,o3,m3,e3,rfl⟩:=hj3.form
 have lZ:=((dM.to hA2).to hb3)
 obtain⟨a0,c0,b0,d0⟩:=lZ.cf2
 have qK:=((dN.to hA2).to hb3)
 obtain⟨q1,s1⟩:=qK.cs2
 have t1:=(z0.to hb3)
 obtain⟨u0,v0⟩:=t1.cs2
 go_wp2_with fail
 have MG:=(((kS.below hb2).below hA2).below hb3)
 have f1:=(MG.aI lZ rfl rfl (.bool g3) (.slice p3 n3 c3)).raw
 have h1:=((hi2.below hA2).below hb3)
 have g1:=(h1.aI lZ rfl rfl (.bool g3) (.slice p3 n3 c3)).raw
 (with_reducible refine(zU _ _ (y) ((Int.gcd (x) (y):Int)) _ f1 g1 (by omega) hlg hg0).mono ?_)
 rintro e w4 ⟨v4,u4,rfl,hi4,hj4,hb4⟩
 obtain⟨g4,p4,n4,c4,rfl⟩:=hi4.form
 obtain⟨h4,o4,m4,e4,rfl⟩:=hj4.form
 have lI:=((qK.aS (b:=w.heap.size) (by omega) (.bool g3) (.slice p3 n3 c3)).to hb4)
 obtain⟨e0,g0,f0,h0⟩:=lI.cf2
 have nO:=((lZ.store2 (.bool g3) (.slice p3 n3 c3)).to hb4)
 obtain⟨l1,o1⟩:=nO.cs2
 have qF:=((((mO.to hA2).to hb3).aS (b:=w.heap.size) (by omega) (.bool g3) (.slice p3 n3 c3)).to hb4)
 obtain⟨i0,m0,j0,n0,k0,o0,l0,p0⟩:=qF.cf4
 have i1:=((hi3.aI lZ rfl rfl (.bool g3) (.slice p3 n3 c3)).below hb4)
 have t0:=(Below.tr (Below.aI (Below.tr (Below.tr (Below.tr (Below.tr (Below.tr dG hA1) hb1) hb2) hA2) hb3) (b:=w.heap.size) (by omega) (.bool g3) (.slice p3 n3 c3)) hb4)
 go_wp2_with fail
 exact jW (v:=.agg #[.bool g3,.slice p3 n3 c3,.bool g4,.slice p4 n4 c4]) (by simp[results,Tryz.results151,go_sem,q0,r0,s0,a0,c0,b0,d0,e0,g0,f0,h0,i0,m0,j0,n0,k0,o0,l0,p0]) rfl ⟨_,rfl,RQ.mk' ((i1.aI lI rfl rfl (.bool g4) (.slice p4 n4 c4)).bM (qF.aS (b:=w.heap.size+1) (by omega) (.bool g4) (.slice p4 n4 c4)) rfl rfl rfl rfl (.bool g3) (.slice p3 n3 c3) (.bool g4) (.slice p4 n4 c4)) ((hi4.aI lI rfl rfl (.bool g4) (.slice p4 n4 c4)).bM (qF.aS (b:=w.heap.size+1) (by omega) (.bool g4) (.slice p4 n4 c4)) rfl rfl rfl rfl (.bool g3) (.slice p3 n3 c3) (.bool g4) (.slice p4 n4 c4)) HX.out.1 HX.out.2,(Below.bM (Below.aI t0 (b:=w.heap.size+1) (by omega) (.bool g4) (.slice p4 n4 c4)) (b:=w.heap.size+1+1) (by omega) (.bool g3) (.slice p3 n3 c3) (.bool g4) (.slice p4 n4 c4))⟩
theorem YP (v u:Value) (x y:Int) (w:World) (hv:dY w v x) (hu:dY w u y) (hl:isz x<=1000000000) (hl2:isz y<=1000000000) (hd:y<0) :
  Calls Tryz.prog 151 #[v,u] w (GQ (Rat.divInt x y) w):=by
 obtain⟨b,p,n,c,rfl⟩:=hv.form
 obtain⟨d,o,m,e,rfl⟩:=hu.form
 have HX:=au (a1m (n:=x) hd)
 have hn1:isz (-x)<=1000000000:=by rw[oD];omega
 have hn2:isz (-y)<=1000000000:=by rw[oD];omega
 have hlg:isz ((Int.gcd (-x) (-y):Nat):Int)<=1000000000:=wF (by omega) (by assumption)
 have hg0:((Int.gcd (-x) (-y):Nat):Int)≠0:=gcd_ne (by omega)
 have hsg:decide (sgn y<0)=true:=by rw[NS hd];rfl
 clear hd
 have dG:Below w.heap.size w w:=bf _ _
 go_enter Tryz.func151,Tryz.ntmps151
 go_wp2_with fail
 obtain⟨hA1,f1,g1,h1⟩:=bx3 w rfl [.bool b,.slice p n c] 62 [.bool d,.slice o m e] 62 [.bool false,.slice none 0 0,.bool false,.slice none 0 0] 64
 have j1:=(hu.below hA1).raw
 (with_reducible refine(sW _ (y) _ j1).mono ?_)
 rintro e w1 ⟨rfl,hb1⟩
 go_wp2_with fail
 have dR:=(f1.to hb1)
 obtain⟨x1,j2,d2,l2⟩:=dR.drew.cf2
 have eU:=(g1.to hb1)
 obtain⟨o2,z2,t2,b3⟩:=eU.drew.cf2
 have tk1:True:=trivial
 have tk2:True:=trivial
 go_region_with
  (first
   | (((have:=tk1);clear tk1;have sH:=((hv.below hA1).below hb1);have k1:=sH.drew.raw;go_at_call 139;(with_reducible refine(AP _ (x) _ k1 (by omega)).mono ?_);rintro e w2 ⟨v2,rfl,hi2,hb2⟩;obtain⟨g2,p2,n2,c2,rfl⟩:=hi2.form;have dN:=(eU.drew.to hb2);obtain⟨q2,a3,u2,d3⟩:=dN.cf2;have dM:=(dR.drew.to hb2);obtain⟨y1,k2,e2,m2⟩:=dM.cf2))
   | (((have:=tk2);clear tk2;have YK:=(((hu.below hA1).below hb1).drew.below hb2);have l1:=YK.raw;go_at_call 139;(with_reducible refine(AP _ (y) _ l1 (by omega)).mono ?_);rintro e w3 ⟨v3,rfl,hi3,hb3⟩;obtain⟨g3,p3,n3,c3,rfl⟩:=hi3.form;have lZ:=(dM.to hb3);obtain⟨a0,e0,c0,g0⟩:=lZ.cf2;have qK:=(dN.to hb3);obtain⟨i0,m0,k0,o0⟩:=qK.cf2)))
 all_goals
  obtain⟨z1,f2⟩:=((lZ.store2 (.bool g2) (.slice p2 n2 c2)).aS (b:=w.heap.size+1) (by omega) (.bool g3) (.slice p3 n3 c3)).cs2
  obtain⟨r2,x2⟩:=((qK.aS (b:=w.heap.size) (by omega) (.bool g2) (.slice p2 n2 c2)).store2 (.bool g3) (.slice p3 n3 c3)).cs2
  go_wp2_with fail
  have b1:=(hi2.below hb3)
  have m1:=((b1.aI lZ rfl rfl (.bool g2) (.slice p2 n2 c2)).aI (qK.aS (b:=w.heap.size) (by omega) (.bool g2) (.slice p2 n2 c2)) rfl rfl (.bool g3) (.slice p3 n3 c3)).raw
  have n1:=((hi3.aI lZ rfl rfl (.bool g2) (.slice p2 n2 c2)).aI (qK.aS (b:=w.heap.size) (by omega) (.bool g2) (.slice p2 n2 c2)) rfl rfl (.bool g3) (.slice p3 n3 c3)).raw
  (with_reducible refine(a1r _ _ (-((x))) (-((y))) _ m1 n1 (by omega) (by omega)).mono ?_)
  rintro e w4 ⟨v4,rfl,hi4,hb4⟩
  obtain⟨g4,p4,n4,c4,rfl⟩:=hi4.form
  have nO:=(((lZ.store2 (.bool g2) (.slice p2 n2 c2)).aS (b:=w.heap.size+1) (by omega) (.bool g3) (.slice p3 n3 c3)).to hb4)
  obtain⟨a2,h2⟩:=nO.cs2
  have y0:=(nO).1
  have lI:=(((qK.aS (b:=w.heap.size) (by omega) (.bool g2) (.slice p2 n2 c2)).store2 (.bool g3) (.slice p3 n3 c3)).to hb4)
  have z0:=(lI).1
  have qF:=((((((h1.to hb1).drew.to hb2).to hb3).aS (b:=w.heap.size) (by omega) (.bool g2) (.slice p2 n2 c2)).aS (b:=w.heap.size+1) (by omega) (.bool g3) (.slice p3 n3 c3)).to hb4)
  have a1:=(qF).1
  go_wp2_with fail
  have s1:=(((b1.aI lZ rfl rfl (.bool g2) (.slice p2 n2 c2)).aI (qK.aS (b:=w.heap.size) (by omega) (.bool g2) (.slice p2 n2 c2)) rfl rfl (.bool g3) (.slice p3 n3 c3)).below hb4)
  obtain⟨hA2,i1⟩:=bx1 w4 rfl [.bool g4,.slice p4 n4 c4] 62
  have o1:=(s1.below hA2).raw
  have p1:=(hi4.below hA2).raw
  (with_reducible refine(zU _ _ (-((x))) ((Int.gcd (-((x))) (-((y))):Int)) _ o1 p1 (by omega) hlg hg0).mono ?_)
  rintro e w5 ⟨v5,u5,rfl,hi5,hj5,hb5⟩
  obtain⟨g5,p5,n5,c5,rfl⟩:=hi5.form
  obtain⟨h5,o5,m5,e5,rfl⟩:=hj5.form
  have a3T:=((nO.to hA2).to hb5)
  obtain⟨b0,f0,d0,h0⟩:=a3T.cf2
  have b2z:=((lI.to hA2).to hb5)
  obtain⟨s2,y2⟩:=b2z.cs2
  have e3:=(i1.to hb5)
  obtain⟨d1,e1⟩:=e3.cs2
  go_wp2_with fail
  have t1:=(((((hi3.aI lZ rfl rfl (.bool g2) (.slice p2 n2 c2)).aI (qK.aS (b:=w.heap.size) (by omega) (.bool g2) (.slice p2 n2 c2)) rfl rfl (.bool g3) (.slice p3 n3 c3)).below hb4).below hA2).below hb5)
  have q1:=(t1.aI a3T rfl rfl (.bool g5) (.slice p5 n5 c5)).raw
  have u1:=((hi4.below hA2).below hb5)
  have r1:=(u1.aI a3T rfl rfl (.bool g5) (.slice p5 n5 c5)).raw
  (with_reducible refine(zU _ _ (-((y))) ((Int.gcd (-((x))) (-((y))):Int)) _ q1 r1 (by omega) hlg hg0).mono ?_)
  rintro e w6 ⟨v6,u6,rfl,hi6,hj6,hb6⟩
  obtain⟨g6,p6,n6,c6,rfl⟩:=hi6.form
  obtain⟨h6,o6,m6,e6,rfl⟩:=hj6.form
  have a5I:=((b2z.aS (b:=w.heap.size) (by omega) (.bool g5) (.slice p5 n5 c5)).to hb6)
  obtain⟨j0,n0,l0,p0⟩:=a5I.cf2
  have b2y:=((a3T.store2 (.bool g5) (.slice p5 n5 c5)).to hb6)
  obtain⟨b2,i2⟩:=b2y.cs2
  have uK:=((((qF.to hA2).to hb5).aS (b:=w.heap.size) (by omega) (.bool g5) (.slice p5 n5 c5)).to hb6)
  obtain⟨q0,u0,r0,v0,s0,w0,t0,x0⟩:=uK.cf4
  have v1:=((hi5.aI a3T rfl rfl (.bool g5) (.slice p5 n5 c5)).below hb6)
  have c1:=(Below.tr (Below.aI (Below.tr (Below.tr (Below.tr (Below.aI (Below.aI (Below.tr (Below.tr (Below.tr (Below.tr dG hA1) hb1).drew hb2) hb3) (b:=w.heap.size) (by omega) (.bool g2) (.slice p2 n2 c2)) (b:=w.heap.size+1) (by omega) (.bool g3) (.slice p3 n3 c3)) hb4) hA2) hb5) (b:=w.heap.size) (by omega) (.bool g5) (.slice p5 n5 c5)) hb6)
  go_wp2_with fail
  exact jW (v:=.agg #[.bool g5,.slice p5 n5 c5,.bool g6,.slice p6 n6 c6]) (by simp[results,Tryz.results151,go_sem,a0,e0,c0,g0,i0,m0,k0,o0,y0,z0,a1,b0,f0,d0,h0,j0,n0,l0,p0,q0,u0,r0,v0,s0,w0,t0,x0]) rfl ⟨_,rfl,RQ.mk' ((v1.aI a5I rfl rfl (.bool g6) (.slice p6 n6 c6)).bM (uK.aS (b:=w.heap.size+1) (by omega) (.bool g6) (.slice p6 n6 c6)) rfl rfl rfl rfl (.bool g5) (.slice p5 n5 c5) (.bool g6) (.slice p6 n6 c6)) ((hi6.aI a5I rfl rfl (.bool g6) (.slice p6 n6 c6)).bM (uK.aS (b:=w.heap.size+1) (by omega) (.bool g6) (.slice p6 n6 c6)) rfl rfl rfl rfl (.bool g5) (.slice p5 n5 c5) (.bool g6) (.slice p6 n6 c6)) HX.out.1 HX.out.2,(Below.bM (Below.aI c1 (b:=w.heap.size+1) (by omega) (.bool g6) (.slice p6 n6 c6)) (b:=w.heap.size+1+1) (by omega) (.bool g5) (.slice p5 n5 c5) (.bool g6) (.slice p6 n6 c6))⟩
theorem BA (v u:Value) (x y:Int) (w:World) (hv:dY w v x) (hu:dY w u y) (hl:isz x<=1000000000) (hl2:isz y<=1000000000) (hd:y≠0) :
  Calls Tryz.prog 151 #[v,u] w (GQ (Rat.divInt x y) w):=by
 rcases uw y 0 with h|h|h
 ·exact YP v u x y w hv hu hl hl2 h
 ·exact absurd h hd
 ·exact XB v u x y w hv hu hl hl2 h
def GQC (q:Rat) (c:Int) (w:World) (e:Ending) (w':World):Prop:=∃ v,e=.returned (.tuple #[v,.int .i64 c])/\RQ w' v q/\Below w.heap.size w w'
def c1G (c:Int) (w:World) (e:Ending) (w':World):Prop:=e=.returned (.tuple #[.agg #[.bool false,.slice none 0 0,.bool false,.slice none 0 0],.int .i64 c])/\Below w.heap.size w w'
theorem QV:∀ (a b c d:Value) (w:World),Sem.run Tryz.prog (Instr.field 64 (.agg #[a,b,c,d]) 0) w=.ok (.agg #[a,b]) w:=fun a b c d w=>by kernel_rfl
theorem a9I (v:Value) (ok:Bool) (q:Rat) (w:World) (h:iI w v ok q) (hn:Qn v 1000000000) :
  Calls Tryz.prog 70 #[v] w (fun e w'=>e=.returned (.int .i64 (sgn q.num))/\Below w.heap.size w w'):=by
 obtain⟨b,p,n,c,d,o,m,e,rfl⟩:=h.form
 have hl:=h.lJ hn (by omega)
 have b1:=fH q
 have b2:=fD q
 have b0:=QV
 have dG:Below w.heap.size w w:=bf _ _
 go_enter Tryz.func70,Tryz.ntmps70
 go_wp2_with fail
 obtain⟨hA1,e0⟩:=bx1 w rfl [.bool b,.slice p n c,.bool d,.slice o m e] 64
 have c0:=(h.below hA1)
 (with_reducible refine(jP _ _ (q) _ c0 hn).mono ?_)
 rintro e w1 ⟨v1,rfl,hi1,hb1⟩
 obtain⟨g1,p1,n1,c1,h1,o1,m1,e1,rfl⟩:=hi1.form
 go_wp2_with fail
 have d0:=hi1.num.raw
 (with_reducible refine(sW _ (((q)).num) _ d0).mono ?_)
 rintro e w2 ⟨rfl,hb2⟩
 have a0:=(Below.tr (Below.tr (Below.tr dG hA1) hb1) hb2)
 go_wp2_with fail
 go_ret
 exact⟨rfl,a0⟩
theorem a3L (v:Value) (ok:Bool) (q:Rat) (w:World) (h:iI w v ok q) (hn:Qn v 1000000000) :
  Calls Tryz.prog 93 #[v] w (GQ (-q) w):=by
 obtain⟨b,p,n,c,d,o,m,e,rfl⟩:=h.form
 have hl:=h.lJ hn (by omega)
 have b1:=fH q
 have b2:=fD q
 have dG:Below w.heap.size w w:=bf _ _
 go_enter Tryz.func93,Tryz.ntmps93
 go_wp2_with fail
 obtain⟨hA1,s0,t0⟩:=bx2 w rfl [.bool b,.slice p n c,.bool d,.slice o m e] 64 [.bool false,.slice none 0 0,.bool false,.slice none 0 0] 64
 have u0:=(h.below hA1)
 (with_reducible refine(jP _ _ (q) _ u0 hn).mono ?_)
 rintro e w1 ⟨v1,rfl,hi1,hb1⟩
 obtain⟨g1,p1,n1,c1,h1,o1,m1,e1,rfl⟩:=hi1.form
 have dR:=(s0.to hb1)
 obtain⟨a0,e0,b0,f0,c0,g0,d0,h0⟩:=dR.cf4
 go_wp2_with fail
 have eU:=(t0.to hb1)
 have a0N:=(aO.mk ((dR.wP (.bool g1) (.slice p1 n1 c1) (.bool h1) (.slice o1 m1 e1)).drew).bs4 (BN.of ((eU.fK (b:=w.heap.size) (by omega) (.bool g1) (.slice p1 n1 c1) (.bool h1) (.slice o1 m1 e1)).drew)))
 have q0:dW (w.heap.size+1) (aO (BS4 w.heap.size (.bool g1) (.slice p1 n1 c1) (.bool h1) (.slice o1 m1 e1)) (BN (w.heap.size+1))):=(aO.hc (BS4.hc (by omega)) BN.hc)
 have tk1:True:=trivial
 go_region_held3 (aO (BS4 w.heap.size (.bool g1) (.slice p1 n1 c1) (.bool h1) (.slice o1 m1 e1)) (BN (w.heap.size+1))) (first|with_reducible exact a0N|with_reducible exact iH.go (aO.hk BS4.hk BN.hk) (by assumption) (by assumption)|with_reducible exact dW.go4 q0 (by assumption)|(simp;done))
  (first
   | (((have:=tk1);clear tk1;have v0:=(hi1.bM dR rfl rfl rfl rfl (.bool g1) (.slice p1 n1 c1) (.bool h1) (.slice o1 m1 e1)).drew.num.raw;go_at_call 139;(with_reducible refine(AP _ (((q)).num) _ v0 (by omega)).mono ?_);rintro e w2 ⟨v2,rfl,hi2,hb2⟩;obtain⟨g2,p2,n2,c2,rfl⟩:=hi2.form;have dN:=((eU.fK (b:=w.heap.size) (by omega) (.bool g1) (.slice p1 n1 c1) (.bool h1) (.slice o1 m1 e1)).drew.to hb2);obtain⟨i0,m0,j0,n0,k0,o0,l0,p0⟩:=dN.cf4)))
 have w0:=((hi1.bM dR rfl rfl rfl rfl (.bool g1) (.slice p1 n1 c1) (.bool h1) (.slice o1 m1 e1)).drew.below hb2)
 have r0:=(Below.tr (Below.bM (Below.tr (Below.tr dG hA1) hb1) (b:=w.heap.size) (by omega) (.bool g1) (.slice p1 n1 c1) (.bool h1) (.slice o1 m1 e1)).drew hb2)
 go_wp2_with fail
 exact jW (v:=.agg #[.bool g2,.slice p2 n2 c2,.bool h1,.slice o1 m1 e1]) (by simp[results,Tryz.results93,go_sem,a0,e0,b0,f0,c0,g0,d0,h0,i0,m0,j0,n0,k0,o0,l0,p0]) rfl ⟨_,rfl,RQ.mk' (hi2.bM dN rfl rfl rfl rfl (.bool g2) (.slice p2 n2 c2) (.bool h1) (.slice o1 m1 e1)) (w0.bM dN rfl rfl rfl rfl (.bool g2) (.slice p2 n2 c2) (.bool h1) (.slice o1 m1 e1)).den (RI q).symm (by rw[RH]),(Below.bM r0 (b:=w.heap.size+1) (by omega) (.bool g2) (.slice p2 n2 c2) (.bool h1) (.slice o1 m1 e1))⟩
theorem a9H (v:Value) (q:Rat) (w:World) (h:RQ w v q) (hl:rsz q<=1000000000) :
 Calls Tryz.prog 70 #[v] w (fun e w'=>e=.returned (.int .i64 (sgn q.num))/\Below w.heap.size w w'):=a9I v true q w h.raw (h.qn hl)
theorem Qn.up {v:Value} {k m:Nat} (h:Qn v k) (hk:k<=m):Qn v m:=by
 obtain⟨b,p,n,c,b',p',n',c',e,h1,h2⟩:=h
 exact⟨b,p,n,c,b',p',n',c',e,by omega,by omega⟩
theorem zT (x y:Rat):(x.den:Int)*y.den≠0:=by
 have:=nP x;have:=nP y
 exact Int.ne_of_gt (Int.mul_pos (by assumption) (by assumption))
theorem a2B (v u:Value) (o1 o2:Bool) (x y:Rat) (w:World) (h1:iI w v o1 x) (h2:iI w u o2 y) (n1:Qn v 400000000) (n2:Qn u 400000000) :
  Calls Tryz.prog 115 #[v,u] w (GQ (x+y) w):=by
 obtain⟨b,p,n,c,d,o,m,e,rfl⟩:=h1.form
 obtain⟨f,i,j,k,g,r,t,a,rfl⟩:=h2.form
 have hl:=h1.lJ n1 (by omega)
 have hl2:=h2.lJ n2 (by omega)
 have m1:=n1.up (show 400000000<=1000000000 by omega)
 have m2:=n2.up (show 400000000<=1000000000 by omega)
 have b1:=fH x
 have b2:=fD x
 have b3:=fH y
 have b4:=fD y
 have c1:=fF x.num y.den
 have c2:=fF y.num x.den
 have c3:=GZ (x.num*y.den) (y.num*x.den)
 have c4:=fF x.den y.den
 have HX:=au (a1T x y)
 have hd0:=zT x y
 have dG:Below w.heap.size w w:=bf _ _
 go_enter Tryz.func115,Tryz.ntmps115
 go_wp2_with fail
 obtain⟨hA1,y0,z0,k1⟩:=bx3 w rfl [.bool b,.slice p n c,.bool d,.slice o m e] 64 [.bool f,.slice i j k,.bool g,.slice r t a] 64 [.bool false,.slice none 0 0,.bool false,.slice none 0 0] 64
 obtain⟨q2,a3,s2,e3,u2,h3,y2,j3⟩:=y0.drew.cf4
 obtain⟨l3,x3,o3,z3,r3,d4,t3,f4⟩:=z0.drew.cf4
 have tk1:True:=trivial
 have tk2:True:=trivial
 go_region_with
  (first
   | (((have:=tk1);clear tk1;have l1:=(h1.below hA1).drew;go_at_call 119;(with_reducible refine(jP _ _ (x) _ l1 m1).mono ?_);rintro e w1 ⟨v1,rfl,hi1,hb1⟩;obtain⟨g1,p1,n1,c1,h1,o1,m1,e1,rfl⟩:=hi1.form;have eU:=(z0.drew.to hb1);obtain⟨m3,y3,q3,a4,s3,e4,u3,h4⟩:=eU.cf4;have dR:=(y0.drew.to hb1);obtain⟨r2,d3,t2,f3,x2,i3,z2,k3⟩:=dR.cf4))
   | (((have:=tk2);clear tk2;have a1s:=((h2.below hA1).drew.below hb1);have q1:=a1s;go_at_call 119;(with_reducible refine(jP _ _ (y) _ q1 m2).mono ?_);rintro e w2 ⟨v2,rfl,hi2,hb2⟩;obtain⟨g2,p2,n2,c2,h2,o2,m2,e2,rfl⟩:=hi2.form;have dM:=(dR.to hb2);obtain⟨a0,e0,b0,f0,c0,g0,d0,h0⟩:=dM.cf4;have dN:=(eU.to hb2);obtain⟨i0,m0,j0,n0,k0,o0,l0,p0⟩:=dN.cf4)))
 all_goals
  go_wp2_with fail
  have mO:=((k1.drew.to hb1).to hb2)
  have a0N:=(aO.mk (((dM.wP (.bool g1) (.slice p1 n1 c1) (.bool h1) (.slice o1 m1 e1)).fK (b:=w.heap.size+1) (by omega) (.bool g2) (.slice p2 n2 c2) (.bool h2) (.slice o2 m2 e2)).drew).bs4 (aO.mk (((dN.fK (b:=w.heap.size) (by omega) (.bool g1) (.slice p1 n1 c1) (.bool h1) (.slice o1 m1 e1)).wP (.bool g2) (.slice p2 n2 c2) (.bool h2) (.slice o2 m2 e2)).drew).bs4 (BN.of (((mO.fK (b:=w.heap.size) (by omega) (.bool g1) (.slice p1 n1 c1) (.bool h1) (.slice o1 m1 e1)).fK (b:=w.heap.size+1) (by omega) (.bool g2) (.slice p2 n2 c2) (.bool h2) (.slice o2 m2 e2)).drew))))
  have i1:dW (w.heap.size+1+1) (aO (BS4 w.heap.size (.bool g1) (.slice p1 n1 c1) (.bool h1) (.slice o1 m1 e1)) (aO (BS4 (w.heap.size+1) (.bool g2) (.slice p2 n2 c2) (.bool h2) (.slice o2 m2 e2)) (BN (w.heap.size+1+1)))):=(aO.hc (BS4.hc (by omega)) (aO.hc (BS4.hc (by omega)) BN.hc))
  have tk3:True:=trivial
  have tk4:True:=trivial
  have tk5:True:=trivial
  have tk6:True:=trivial
  have tk7:True:=trivial
  go_region_held3 (aO (BS4 w.heap.size (.bool g1) (.slice p1 n1 c1) (.bool h1) (.slice o1 m1 e1)) (aO (BS4 (w.heap.size+1) (.bool g2) (.slice p2 n2 c2) (.bool h2) (.slice o2 m2 e2)) (BN (w.heap.size+1+1)))) (first|with_reducible exact a0N|with_reducible exact iH.go (aO.hk BS4.hk (aO.hk BS4.hk BN.hk)) (by assumption) (by assumption)|with_reducible exact dW.go4 i1 (by assumption)|(simp;done))
   (first
    | (((have:=tk3);clear tk3;have a1:=(hi1.below hb2);have r1:=((a1.bM dM rfl rfl rfl rfl (.bool g1) (.slice p1 n1 c1) (.bool h1) (.slice o1 m1 e1)).bM (dN.fK (b:=w.heap.size) (by omega) (.bool g1) (.slice p1 n1 c1) (.bool h1) (.slice o1 m1 e1)) rfl rfl rfl rfl (.bool g2) (.slice p2 n2 c2) (.bool h2) (.slice o2 m2 e2)).drew.num.raw;have s1:=((hi2.bM dM rfl rfl rfl rfl (.bool g1) (.slice p1 n1 c1) (.bool h1) (.slice o1 m1 e1)).bM (dN.fK (b:=w.heap.size) (by omega) (.bool g1) (.slice p1 n1 c1) (.bool h1) (.slice o1 m1 e1)) rfl rfl rfl rfl (.bool g2) (.slice p2 n2 c2) (.bool h2) (.slice o2 m2 e2)).drew.den.raw;go_at_call 136;(with_reducible refine(mul_any _ _ (((x)).num) ((((y)).den:Int)) _ r1 s1 (by omega) (by omega)).mono ?_);rintro e w3 ⟨v3,rfl,hi3,hb3⟩;obtain⟨g3,p3,n3,c3,rfl⟩:=hi3.form))
    | (((have:=tk4);clear tk4;have f1:=(((hi2.bM dM rfl rfl rfl rfl (.bool g1) (.slice p1 n1 c1) (.bool h1) (.slice o1 m1 e1)).bM (dN.fK (b:=w.heap.size) (by omega) (.bool g1) (.slice p1 n1 c1) (.bool h1) (.slice o1 m1 e1)) rfl rfl rfl rfl (.bool g2) (.slice p2 n2 c2) (.bool h2) (.slice o2 m2 e2)).drew.below hb3);have t1:=f1.num.raw;have d1:=(((a1.bM dM rfl rfl rfl rfl (.bool g1) (.slice p1 n1 c1) (.bool h1) (.slice o1 m1 e1)).bM (dN.fK (b:=w.heap.size) (by omega) (.bool g1) (.slice p1 n1 c1) (.bool h1) (.slice o1 m1 e1)) rfl rfl rfl rfl (.bool g2) (.slice p2 n2 c2) (.bool h2) (.slice o2 m2 e2)).drew.below hb3);have u1:=d1.den.raw;go_at_call 136;(with_reducible refine(mul_any _ _ (((y)).num) ((((x)).den:Int)) _ t1 u1 (by omega) (by omega)).mono ?_);rintro e w4 ⟨v4,rfl,hi4,hb4⟩;obtain⟨g4,p4,n4,c4,rfl⟩:=hi4.form))
    | (((have:=tk5);clear tk5;have k2:=(hi3.below hb4);have x1:=k2.raw;have y1:=hi4.raw;go_at_call 152;(with_reducible refine(add_any _ _ ((((x)).num)*((((y)).den:Int))) ((((y)).num)*((((x)).den:Int))) _ x1 y1 (by omega) (by omega)).mono ?_);rintro e w5 ⟨v5,rfl,hi5,hb5⟩;obtain⟨g5,p5,n5,c5,rfl⟩:=hi5.form))
    | (((have:=tk6);clear tk6;have i2:=((d1.below hb4).below hb5);have z1:=i2.den.raw;have j2:=((f1.below hb4).below hb5);have a2:=j2.den.raw;go_at_call 136;(with_reducible refine(mul_any _ _ ((((x)).den:Int)) ((((y)).den:Int)) _ z1 a2 (by omega) (by omega)).mono ?_);rintro e w6 ⟨v6,rfl,hi6,hb6⟩;obtain⟨g6,p6,n6,c6,rfl⟩:=hi6.form))
    | (((have:=tk7);clear tk7;have l2:=(hi5.below hb6);have d2:=l2;have f2:=hi6;go_at_call 151;(with_reducible refine(BA _ _ (((((x)).num)*((((y)).den:Int)))+((((y)).num)*((((x)).den:Int)))) (((((x)).den:Int))*((((y)).den:Int))) _ d2 f2 (by omega) (by omega) hd0).mono ?_);rintro e w7 ⟨v7,rfl,hi7,hb7⟩;obtain⟨g7,p7,n7,c7,h7,o7,m7,e7,rfl⟩:=hi7.form;have b2A:=(((((((mO.fK (b:=w.heap.size) (by omega) (.bool g1) (.slice p1 n1 c1) (.bool h1) (.slice o1 m1 e1)).fK (b:=w.heap.size+1) (by omega) (.bool g2) (.slice p2 n2 c2) (.bool h2) (.slice o2 m2 e2)).drew.to hb3).to hb4).to hb5).to hb6).to hb7);obtain⟨q0,u0,r0,v0,s0,w0,t0,x0⟩:=b2A.cf4)))
  have j1:=(Below.tr (Below.tr (Below.tr (Below.tr (Below.tr (Below.bM (Below.bM (Below.tr (Below.tr (Below.tr dG hA1).drew hb1) hb2) (b:=w.heap.size) (by omega) (.bool g1) (.slice p1 n1 c1) (.bool h1) (.slice o1 m1 e1)) (b:=w.heap.size+1) (by omega) (.bool g2) (.slice p2 n2 c2) (.bool h2) (.slice o2 m2 e2)).drew hb3) hb4) hb5) hb6) hb7)
  go_wp2_with fail
  exact jW (v:=.agg #[.bool g7,.slice p7 n7 c7,.bool h7,.slice o7 m7 e7]) (by simp[results,Tryz.results115,go_sem,a0,e0,b0,f0,c0,g0,d0,h0,i0,m0,j0,n0,k0,o0,l0,p0,q0,u0,r0,v0,s0,w0,t0,x0]) rfl ⟨_,rfl,by rw[<-HX.out];exact(hi7.bM b2A rfl rfl rfl rfl (.bool g7) (.slice p7 n7 c7) (.bool h7) (.slice o7 m7 e7)),(Below.bM j1 (b:=w.heap.size+1+1) (by omega) (.bool g7) (.slice p7 n7 c7) (.bool h7) (.slice o7 m7 e7))⟩
theorem b2f (v u:Value) (o1 o2:Bool) (x y:Rat) (w:World) (h1:iI w v o1 x) (h2:iI w u o2 y) (n1:Qn v 400000000) (n2:Qn u 400000000) :
  Calls Tryz.prog 149 #[v,u] w (GQ (x*y) w):=by
 obtain⟨b,p,n,c,d,o,m,e,rfl⟩:=h1.form
 obtain⟨f,i,j,k,g,r,t,a,rfl⟩:=h2.form
 have hl:=h1.lJ n1 (by omega)
 have hl2:=h2.lJ n2 (by omega)
 have m1:=n1.up (show 400000000<=1000000000 by omega)
 have m2:=n2.up (show 400000000<=1000000000 by omega)
 have b1:=fH x
 have b2:=fD x
 have b3:=fH y
 have b4:=fD y
 have c1:=fF x.num y.num
 have c4:=fF x.den y.den
 have HX:=au (a1V x y)
 have hd0:=zT x y
 have dG:Below w.heap.size w w:=bf _ _
 go_enter Tryz.func149,Tryz.ntmps149
 go_wp2_with fail
 obtain⟨hA1,y0,z0,i1⟩:=bx3 w rfl [.bool b,.slice p n c,.bool d,.slice o m e] 64 [.bool f,.slice i j k,.bool g,.slice r t a] 64 [.bool false,.slice none 0 0,.bool false,.slice none 0 0] 64
 obtain⟨a2,r2,f2,t2,j2,x2,l2,z2⟩:=y0.drew.cf4
 obtain⟨d3,m3,f3,q3,i3,s3,k3,u3⟩:=z0.drew.cf4
 have tk1:True:=trivial
 have tk2:True:=trivial
 go_region_with
  (first
   | (((have:=tk1);clear tk1;have j1:=(h1.below hA1).drew;go_at_call 119;(with_reducible refine(jP _ _ (x) _ j1 m1).mono ?_);rintro e w1 ⟨v1,rfl,hi1,hb1⟩;obtain⟨g1,p1,n1,c1,h1,o1,m1,e1,rfl⟩:=hi1.form;have eU:=(z0.drew.to hb1);obtain⟨e3,o3,h3,r3,j3,t3,l3,x3⟩:=eU.cf4;have dR:=(y0.drew.to hb1);obtain⟨d2,s2,i2,u2,k2,y2,q2,a3⟩:=dR.cf4))
   | (((have:=tk2);clear tk2;have a1s:=((h2.below hA1).drew.below hb1);have k1:=a1s;go_at_call 119;(with_reducible refine(jP _ _ (y) _ k1 m2).mono ?_);rintro e w2 ⟨v2,rfl,hi2,hb2⟩;obtain⟨g2,p2,n2,c2,h2,o2,m2,e2,rfl⟩:=hi2.form;have dM:=(dR.to hb2);obtain⟨a0,e0,b0,f0,c0,g0,d0,h0⟩:=dM.cf4;have dN:=(eU.to hb2);obtain⟨i0,m0,j0,n0,k0,o0,l0,p0⟩:=dN.cf4)))
 all_goals
  go_wp2_with fail
  have mO:=((i1.drew.to hb1).to hb2)
  have a0N:=(aO.mk (((dM.wP (.bool g1) (.slice p1 n1 c1) (.bool h1) (.slice o1 m1 e1)).fK (b:=w.heap.size+1) (by omega) (.bool g2) (.slice p2 n2 c2) (.bool h2) (.slice o2 m2 e2)).drew).bs4 (aO.mk (((dN.fK (b:=w.heap.size) (by omega) (.bool g1) (.slice p1 n1 c1) (.bool h1) (.slice o1 m1 e1)).wP (.bool g2) (.slice p2 n2 c2) (.bool h2) (.slice o2 m2 e2)).drew).bs4 (BN.of (((mO.fK (b:=w.heap.size) (by omega) (.bool g1) (.slice p1 n1 c1) (.bool h1) (.slice o1 m1 e1)).fK (b:=w.heap.size+1) (by omega) (.bool g2) (.slice p2 n2 c2) (.bool h2) (.slice o2 m2 e2)).drew))))
  have d1:dW (w.heap.size+1+1) (aO (BS4 w.heap.size (.bool g1) (.slice p1 n1 c1) (.bool h1) (.slice o1 m1 e1)) (aO (BS4 (w.heap.size+1) (.bool g2) (.slice p2 n2 c2) (.bool h2) (.slice o2 m2 e2)) (BN (w.heap.size+1+1)))):=(aO.hc (BS4.hc (by omega)) (aO.hc (BS4.hc (by omega)) BN.hc))
  have tk3:True:=trivial
  have tk4:True:=trivial
  have tk5:True:=trivial
  go_region_held3 (aO (BS4 w.heap.size (.bool g1) (.slice p1 n1 c1) (.bool h1) (.slice o1 m1 e1)) (aO (BS4 (w.heap.size+1) (.bool g2) (.slice p2 n2 c2) (.bool h2) (.slice o2 m2 e2)) (BN (w.heap.size+1+1)))) (first|with_reducible exact a0N|with_reducible exact iH.go (aO.hk BS4.hk (aO.hk BS4.hk BN.hk)) (by assumption) (by assumption)|with_reducible exact dW.go4 d1 (by assumption)|(simp;done))
   (first
    | (((have:=tk3);clear tk3;have a1:=(hi1.below hb2);have l1:=((a1.bM dM rfl rfl rfl rfl (.bool g1) (.slice p1 n1 c1) (.bool h1) (.slice o1 m1 e1)).bM (dN.fK (b:=w.heap.size) (by omega) (.bool g1) (.slice p1 n1 c1) (.bool h1) (.slice o1 m1 e1)) rfl rfl rfl rfl (.bool g2) (.slice p2 n2 c2) (.bool h2) (.slice o2 m2 e2)).drew.num.raw;have q1:=((hi2.bM dM rfl rfl rfl rfl (.bool g1) (.slice p1 n1 c1) (.bool h1) (.slice o1 m1 e1)).bM (dN.fK (b:=w.heap.size) (by omega) (.bool g1) (.slice p1 n1 c1) (.bool h1) (.slice o1 m1 e1)) rfl rfl rfl rfl (.bool g2) (.slice p2 n2 c2) (.bool h2) (.slice o2 m2 e2)).drew.num.raw;go_at_call 136;(with_reducible refine(mul_any _ _ (((x)).num) (((y)).num) _ l1 q1 (by omega) (by omega)).mono ?_);rintro e w3 ⟨v3,rfl,hi3,hb3⟩;obtain⟨g3,p3,n3,c3,rfl⟩:=hi3.form))
    | (((have:=tk4);clear tk4;have x1:=(((a1.bM dM rfl rfl rfl rfl (.bool g1) (.slice p1 n1 c1) (.bool h1) (.slice o1 m1 e1)).bM (dN.fK (b:=w.heap.size) (by omega) (.bool g1) (.slice p1 n1 c1) (.bool h1) (.slice o1 m1 e1)) rfl rfl rfl rfl (.bool g2) (.slice p2 n2 c2) (.bool h2) (.slice o2 m2 e2)).drew.below hb3);have r1:=x1.den.raw;have y1:=(((hi2.bM dM rfl rfl rfl rfl (.bool g1) (.slice p1 n1 c1) (.bool h1) (.slice o1 m1 e1)).bM (dN.fK (b:=w.heap.size) (by omega) (.bool g1) (.slice p1 n1 c1) (.bool h1) (.slice o1 m1 e1)) rfl rfl rfl rfl (.bool g2) (.slice p2 n2 c2) (.bool h2) (.slice o2 m2 e2)).drew.below hb3);have s1:=y1.den.raw;go_at_call 136;(with_reducible refine(mul_any _ _ ((((x)).den:Int)) ((((y)).den:Int)) _ r1 s1 (by omega) (by omega)).mono ?_);rintro e w4 ⟨v4,rfl,hi4,hb4⟩;obtain⟨g4,p4,n4,c4,rfl⟩:=hi4.form))
    | (((have:=tk5);clear tk5;have z1:=(hi3.below hb4);have t1:=z1;have u1:=hi4;go_at_call 151;(with_reducible refine(BA _ _ ((((x)).num)*(((y)).num)) (((((x)).den:Int))*((((y)).den:Int))) _ t1 u1 (by omega) (by omega) hd0).mono ?_);rintro e w5 ⟨v5,rfl,hi5,hb5⟩;obtain⟨g5,p5,n5,c5,h5,o5,m5,e5,rfl⟩:=hi5.form;have zA:=(((((mO.fK (b:=w.heap.size) (by omega) (.bool g1) (.slice p1 n1 c1) (.bool h1) (.slice o1 m1 e1)).fK (b:=w.heap.size+1) (by omega) (.bool g2) (.slice p2 n2 c2) (.bool h2) (.slice o2 m2 e2)).drew.to hb3).to hb4).to hb5);obtain⟨q0,u0,r0,v0,s0,w0,t0,x0⟩:=zA.cf4)))
  have f1:=(Below.tr (Below.tr (Below.tr (Below.bM (Below.bM (Below.tr (Below.tr (Below.tr dG hA1).drew hb1) hb2) (b:=w.heap.size) (by omega) (.bool g1) (.slice p1 n1 c1) (.bool h1) (.slice o1 m1 e1)) (b:=w.heap.size+1) (by omega) (.bool g2) (.slice p2 n2 c2) (.bool h2) (.slice o2 m2 e2)).drew hb3) hb4) hb5)
  go_wp2_with fail
  exact jW (v:=.agg #[.bool g5,.slice p5 n5 c5,.bool h5,.slice o5 m5 e5]) (by simp[results,Tryz.results149,go_sem,a0,e0,b0,f0,c0,g0,d0,h0,i0,m0,j0,n0,k0,o0,l0,p0,q0,u0,r0,v0,s0,w0,t0,x0]) rfl ⟨_,rfl,by rw[<-HX.out];exact(hi5.bM zA rfl rfl rfl rfl (.bool g5) (.slice p5 n5 c5) (.bool h5) (.slice o5 m5 e5)),(Below.bM f1 (b:=w.heap.size+1+1) (by omega) (.bool g5) (.slice p5 n5 c5) (.bool h5) (.slice o5 m5 e5))⟩
theorem b0a (v u:Value) (x y:Rat) (w:World) (h1:RQ w v x) (h2:RQ w u y) (l1:rsz x<=400000000) (l2:rsz y<=400000000) :
 Calls Tryz.prog 115 #[v,u] w (GQ (x+y) w):=a2B v u true true x y w h1.raw h2.raw (h1.qn l1) (h2.qn l2)
theorem b2e (v u:Value) (x y:Rat) (w:World) (h1:RQ w v x) (h2:RQ w u y) (l1:rsz x<=400000000) (l2:rsz y<=400000000) :
 Calls Tryz.prog 149 #[v,u] w (GQ (x*y) w):=b2f v u true true x y w h1.raw h2.raw (h1.qn l1) (h2.qn l2)
end Go.Proofs.YtgplhbhfdgempaaGreat
