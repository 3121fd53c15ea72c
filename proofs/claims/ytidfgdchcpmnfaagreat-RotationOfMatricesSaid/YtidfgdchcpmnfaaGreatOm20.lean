/-
  Lemmas for the theorem vofmatrices_holds, part 20 of 32.
-/
import Derived.Test.YtidfgdchcpmnfaaGreatOm02
import Derived.Test.YtidfgdchcpmnfaaGreatOm05
import Derived.Test.YtidfgdchcpmnfaaGreatOm19
namespace Go.Proofs.YtidfgdchcpmnfaaGreat
open Go Go.RowKit
set_option linter.unusedSimpArgs false
set_option linter.unusedVariables false
set_option maxRecDepth 20000
def a2Q (B:Book) (G:Nat->K) (ρ:Nat->Res) (t:Ty):ResultVar->Option (Part × List (Nat × Res))
 | .tmp s=>vX ρ (some t) (G s)
 | .cell s ty=>match G s with
  | .ptr r o=>match ρ r with
   | .box ps=>(a4n B.P B.T ty ps o).map fun p=>(p,[])
   | _=>none
  | .val (.ref u) y=>if fitsT B.P ty u then some (⟨u,y⟩,[]) else none
  | .lJ r=>match ρ r with
   | .kT k=>if sF B.P ty==some false then vX ρ (some t) k else none
   | _=>none
  | _=>none
def a0V (B:Book) (G:Nat->K):(Nat->Res)->(ts:List Ty)->List ResultVar->(nest ts).den->Prop
 | _,[],[],_=>True
 | ρ,t::ts,r::rs,y=>match a2Q B G ρ t r with
  | some (p,l)=>match nY p.t t with
   | some q=>dZ (q.c p.x)/\q.f p.x=y.1/\a0V B G (after ρ l) ts rs y.2
   | none=>False
  | none=>False
 | _,_,_,_=>False
def b2F (B:Book) (ts:List Ty) (rs:List ResultVar) (y:(nest ts).den):Exit->Gam->Rho->Prop
 | .normal,G,R=>a0V B (dH G) (aW R) ts rs y
 | .ret,G,R=>a0V B (dH G) (aW R) ts rs y
 | _,_,_=>False
def MP:Nat->(ts:List Ty)->(nest ts).den->Gam
 | _,[],_=>[]
 | i,t::ts,x=>(i,.val t x.1)::MP (i+1) ts x.2
section
variable {B:Book} {W:World}
def DJ (P:Program) (a:Act):ResultVar->Sem Value
 | .tmp t=>pure (a.tmps.getD t undef)
 | .cell s t=>do loadVar t (<-asAddr (a.tmps.getD s undef))
theorem a0B {P:Program} {w:World} {f:ResultVar->Sem Value}:∀ {rs:List ResultVar} {vs:List Value},kN (fun r v=>(f r).run P w=.ok v w) rs vs->(rs.mapM f).run P w=.ok vs w
 | _,_,.nil=>by simp
 | _,_,.cons h1 h2=>by
  rw[List.mapM_cons,Sem.run_bind,h1]
  simp only[Result.andThen_ok,Sem.run_bind,a0B h2]
  rfl
theorem a0W {P:Program} {fn:Func} {a:Act} {w:World} {vs:List Value} (h:kN (fun r v=>(DJ P a r).run P w=.ok v w) fn.results.toList vs):(results fn a.tmps).run P w=.ok (if h:vs.toArray.size=1 then vs.toArray[0] else .tuple vs.toArray) w:=by
 have e:results fn a.tmps=(do let us <-fn.results.mapM (DJ P a);pure (if h:us.size=1 then us[0] else .tuple us)):=by
  unfold results
  congr 2
 rw[e,Array.mapM_eq_mapM_toList]
 simp only[Sem.run_bind,map_eq_pure_bind,a0B h,Result.andThen_ok,Sem.run_pure]
theorem a5V {G:Nat->K} {ρ:Nat->Res} {E:Env} {w:World} {a:Act} {t:Ty} {r:ResultVar} {p:Part} {l:List (Nat × Res)} (h:a2Q B G ρ t r=some (p,l)) (hM:Mem E ρ W w) (hf:Fits E ρ w B a G) :
  ∃ v E',(DJ B.P a r).run B.P w=.ok v w/\Mem E' (after ρ l) W w/\Ext E ρ w E' (after ρ l) w/\iZ (fz w E') w p.t v p.x:=by
 cases r with
 | tmp s =>
  obtain⟨E',m1,m2,m3⟩:=qO h hM (hf.wf s) (hf.holds s)
  exact⟨_,E',rfl,m1,m2,m3⟩
 | cell s ty =>
  simp only[a2Q] at h
  have hs:=hf.holds s
  have hs':a.tmps.getD s undef=a.eval (.tmp s):=rfl
  split at h<;>first|(cases h;done)|skip
  ·rename_i rr o hk
   rw[hk] at hs
   split at h<;>first|(cases h;done)|skip
   rename_i ps hr
   simp only[Option.map_eq_some_iff,Prod.mk.injEq] at h
   obtain⟨p',h1,rfl,rfl⟩:=h
   obtain⟨b,hb,hp⟩:=hs
   have hres:=hM.res rr
   rw[hr] at hres
   obtain⟨b',cs,e,k1,k3,k4⟩:=hres
   rw[hb] at k1;cases k1
   obtain⟨hft,c,hc,hrep⟩:=a0z h1 k4
   have hrg:w.rangeAt b o c:=fun j v hv=>by
    rw[cell_of_row _ _ _ _ _ _ k3,<-hv]
    simp only[List.getElem?_toArray]
    rw[<-hc,List.getElem?_take,if_pos (by have:=(List.getElem?_eq_some_iff.1 hv).1;exact this),List.getElem?_drop]
   refine⟨p'.t.toV c,E,?_,hM,Ext.refl _ _ _,c,rfl,hrep⟩
   simp only[DJ,hs',hp,asAddr,Sem.run_bind,Sem.run_pure,Result.andThen_ok]
   exact jR hft hrg hrep
  ·rename_i u y hk
   rw[hk] at hs
   split at h<;>first|(cases h;done)|skip
   rename_i hft
   simp only[Option.some.injEq,Prod.mk.injEq] at h
   obtain⟨rfl,rfl⟩:=h
   obtain⟨b,o,ds,hp,k1,k2,k3⟩:=BD hs
   refine⟨u.toV ds,E,?_,hM,Ext.refl _ _ _,ds,rfl,k3⟩
   simp only[DJ,hs',hp,asAddr,Sem.run_bind,Sem.run_pure,Result.andThen_ok]
   exact jR hft k2 k3
  ·rename_i rr hk
   rw[hk] at hs
   split at h<;>first|(cases h;done)|skip
   rename_i k9 hr
   split at h<;>first|(cases h;done)|skip
   rename_i ha
   obtain⟨q1,q2,b,u,e,q3,q4,q5,q6⟩:=hM.kbx rr k9 hr
   obtain⟨b',g1,g2⟩:=hs (by rw[hr];trivial)
   rw[g1] at q3;cases q3
   obtain⟨E',m1,m2,m3⟩:=qO h hM q1 q6
   refine⟨u,E',?_,m1,m2,m3⟩
   simp only[DJ,hs',g2,asAddr,Sem.run_bind,Sem.run_pure,Result.andThen_ok]
   exact PE (by simpa using ha) (by rw[cell_of_row w _ _ _ _ _ q4];rfl)
theorem a4E {G:Nat->K} {w:World} {a:Act}:∀ {ts:List Ty} {rs:List ResultVar} {y:(nest ts).den} {ρ:Nat->Res} {E:Env},a0V B G ρ ts rs y->Mem E ρ W w->Fits E ρ w B a G ->
  ∃ vs E',kN (fun r v=>(DJ B.P a r).run B.P w=.ok v w) rs vs/\E'.fix=E.fix/\jF (fz w E') w ts vs y/\∀ q,fz w E q->fz w E' q
 | [],[],y,ρ,E,h,hM,hf=>⟨[],E,.nil,rfl,rfl,fun _ h=>h⟩
 | t::ts,r::rs,y,ρ,E,h,hM,hf=>by
  simp only[a0V] at h
  split at h<;>first|exact h.elim|skip
  rename_i p l h1
  split at h<;>first|exact h.elim|skip
  rename_i q hq
  obtain⟨hc,hy,h2⟩:=h
  obtain⟨v,E1,k1,m1,m2,m3⟩:=a5V h1 hM hf
  obtain⟨vs,E2,j1,j2,j3,j4⟩:=a4E h2 m1 ⟨hf.size,hf.defers,fun s=>m2.wf _ (hf.wf s),fun s=>m2.holds _ _ (hf.wf s) (hf.holds s),fun s hs=>by rw[m2.par];exact hf.par s hs⟩
  refine⟨v::vs,E2,.cons k1 j1,j2.trans m2.fix,⟨v,vs,rfl,?_,j3⟩,fun q hq=>j4 q (m2.fz q hq)⟩
  obtain⟨cs,rfl,hr⟩:=gQ j4 (jG.refl _ _) m3
  refine⟨cs,by unfold Ty.toV;rw[yE _ _ _ hq],?_⟩
  rw[<-hy]
  exact zW _ _ _ hq cs _ hr hc
 | [],_::_,y,ρ,E,h,hM,hf=>by simp[a0V] at h
 | _::_,[],y,ρ,E,h,hM,hf=>by simp[a0V] at h
theorem YN {F:Nat->Prop} {w:World}:∀ {ts:List Ty} {vs:List Value} {y:(nest ts).den},jF F w ts vs y->vs.length=ts.length
 | [],vs,y,h=>by rw[show vs=[] from h];rfl
 | t::ts,vs,y,⟨v,vs',h1,h2,h3⟩=>by rw[h1,List.length_cons,YN h3];rfl
theorem b2G {F:Nat->Prop} {w:World} {ts:List Ty} {vs:List Value} {y:(nest ts).den} (h:jF F w ts vs y):qK F w ts (if h:vs.toArray.size=1 then vs.toArray[0] else .tuple vs.toArray) y:=by
 have hl:=YN h
 match ts,y,h with
 | [t],y,⟨v,vs',h1,h2,h3⟩ =>
  have h3:vs'=[]:=h3
  subst h3
  subst h1
  exact h2
 | [],y,h =>
  have h:vs=[]:=h
  subst h
  exact⟨[],rfl,rfl⟩
 | t1::t2::ts,y,h =>
  refine⟨vs,?_,h⟩
  rw[dif_neg (by simp[hl])]
theorem MQ {F:Nat->Prop} {w:World} {E:Env} {ρ:Nat->Res} (hF:∀ q,F q->fz w E q):∀ {ts:List Ty} {vs:List Value} {x:(nest ts).den} (i s:Nat),jF F w ts vs x->(dH (MP i ts x) s).wf ρ/\(i<=s->(dH (MP i ts x) s).holds E ρ w (vs.getD (s-i) undef))/\(s<i->dH (MP i ts x) s=.any)
 | [],vs,x,i,s,h=>⟨trivial,fun _=>trivial,fun _=>rfl⟩
 | t::ts,vs,x,i,s,⟨v,vs',h1,h2,h3⟩=>by
  obtain⟨k1,k2,k3⟩:=MQ hF (i+1) s h3
  simp only[MP,dH]
  split
  ·rename_i e
   subst e
   refine⟨trivial,fun _=>?_,fun h=>by omega⟩
   rw[h1,Nat.sub_self]
   exact gQ hF (jG.refl _ _) h2
  ·rename_i e
   refine⟨k1,fun h=>?_,fun h=>k3 (by omega)⟩
   have:=k2 (by omega)
   rw[h1]
   have e2:s-i=(s-(i+1))+1:=by omega
   rw[e2,List.getD_cons_succ]
   exact this
theorem b1F (hB:B.Ok) (hm:B.P.follows .mixedOrders=true) {f:FuncId} {fn:Func} {code:Code} {c:Ctr} (hf:B.P.funcs[f]?=some fn) (hb:fn.body=some code) (hN:fn.ntmps=B.N) (hkeep:B.keep=fun _=>false) (hargs:c.args.length<=fn.ntmps) (A:(nest c.args).den->List Ann)
  (h:∀ x,c.pre x->vwp B code (A x) (b2F B c.res fn.results.toList (c.fn x)) (MP 0 c.args x) []):dG B.P f c:=by
 intro F w vs x hF hvs hpre
 have hl:=YN hvs
 let E:Env:=⟨fun _=>none,fun _=>undef,fun q=>F q\/w.heap.size<=q,fun _ _=>undef,fun _=>False,fun _=>undef⟩
 have hhas:∀ r j q,¬ E.has r j q:=fun r j q h=>by cases j<;>cases h
 have hFz:∀ q,F q->fz w E q:=fun q hq=>yL (hF q hq) (.inl hq) (fun r j=>hhas r j q)
 have hM:Mem E (aW []) w w:=⟨⟨rfl,rfl,rfl,Nat.le_refl _,fun _ _ _=>rfl⟩,fun r=>rfl,fun r j r' j' b e=>(hhas r j b e).elim,fun r j b e=>(hhas r j b e).elim,fun q hq=>hq.elim (fun h=>h.elim) .inr,fun r i _=>rfl,fun r k e=>(by cases e),fun b o n h=>h⟩
 refine calls_of_wp hf hb (wp_mono (b5N (W:=w) (base:=E.fix) hB hm code (h x hpre) ⟨E,rfl,hM,?_⟩) (fun e a w' hq=>?_))
 ·refine⟨by simp[hN];omega,rfl,fun s=>(MQ hFz 0 s hvs).1,fun s=>?_,fun s hs=>by rw[hkeep] at hs;cases hs⟩
  have h1:=(MQ (ρ:=aW []) hFz 0 s hvs).2.1 (Nat.zero_le _)
  rw[Nat.sub_zero] at h1
  by_cases hs:s<vs.length
  ·have:(({ tmps:=vs.toArray++Array.replicate (fn.ntmps-vs.toArray.size) undef,defers:=[] }:Act).eval (.tmp s))=vs.getD s undef:=by
    simp[Act.eval,Array.getD_eq_getD_getElem?,Array.getElem?_append,hs]
   rw[this];exact h1
  ·have hany:dH (MP 0 c.args x) s=.any:=by
    have:∀ (ts:List Ty) (x:(nest ts).den) (i:Nat),i+ts.length<=s->dH (MP i ts x) s=.any:=by
     intro ts
     induction ts with
     | nil=>intro x i _;rfl
     | cons t ts ih =>
      intro x i hi
      simp only[List.length_cons] at hi
      simp only[MP,dH]
      rw[if_neg (by omega)]
      exact ih x.2 (i+1) (by omega)
    exact this c.args x 0 (by omega)
   rw[hany];trivial
 ·obtain⟨G',R',k1,_,E',k2,k3,k4⟩:=hq
  have fin:a0V B (dH G') (aW R') c.res fn.results.toList (c.fn x)->a.defers=[]/\∃ v,(results fn a.tmps).run B.P w'=.ok v w'/\∃ v',Ending.returned v=.returned v'/\qK (newF F w w') w' c.res v' (c.fn x)/\Below w.heap.size w w':=fun hr=>by
   obtain⟨us,E2,j1,j2,j3,_⟩:=a4E hr k3 k4
   refine⟨k4.defers,_,a0W j1,_,rfl,b2G (jV (fun q hq=>⟨?_,hq.1.1⟩) (jG.refl _ _) _ _ _ j3),k3.below.below (fun q=>by rw[show E'.sW=E.sW from congrArg Fix.sW k2];exact id)⟩
   have:=hq.1.2
   rw[show E2.base=E.base from(congrArg Fix.base j2).trans (congrArg Fix.base k2)] at this
   exact this
  cases e with
  | normal=>exact fin k1
  | ret=>exact fin k1
  | exit i=>exact k1.elim
  | goto l=>exact k1.elim
  | panic ch=>exact k1.elim
  | outgrown=>exact k1.elim
end
noncomputable def a9k (rt:Ty):Nat->TypeId->Option Ty
 | 0,_=>none
 | n+1,t=>if t=30 then some rt else if t=28 then some (.lf .big) else match Tryz.prog.underlying t with
  | some .bool=>some .bool
  | some (.int k)=>some (.int k)
  | some .string=>some (.lf .str)
  | some (.slice e)=>(a9k rt n e).map .list
  | some (.array m e)=>(a9k rt n e).map (.arr m)
  | some (.struct fs)=>fs.toList.foldr (fun f acc=>match a9k rt n f.type,acc with
   | some a,some b=>some (.pair a b)
   | _,_=>none) (some .unit)
  | _=>none
structure Hint where
 wr:List Nat
 kb:List Nat:=[]
 mt:List (Nat × Ty):=[]
def b0Y:List (Nat × Ty)->Nat->Option Ty
 | [],_=>none
 | (s,t)::l,q=>if q=s then some t else b0Y l q
noncomputable def told (h:Hint) (nc:FuncId->List YX):Told:=⟨a9k (.lf .iH) 8,a9k (.lf .rat) 8,fun s=>h.wr.contains s || h.kb.contains s,fun s=>h.kb.contains s,b0Y h.mt,nc⟩
structure Lib where
 l:List (FuncId × Ctr)
 ok:∀ p ∈ l,dG Tryz.prog p.1 p.2
 n:List (FuncId × YX)
 okn:∀ p ∈ n,NOk Tryz.prog p.1 p.2
def TR {γ:Type}:List (FuncId × γ)->FuncId->List γ
 | [],_=>[]
 | (f,c)::l,g=>if g=f then c::TR l g else TR l g
theorem zY {γ:Type}:∀ {l:List (FuncId × γ)} {g:FuncId} {c:γ},c ∈ TR l g->(g,c) ∈ l
 | (f,c')::l,g,c,h=>by
  simp only[TR] at h
  split at h
  ·rename_i e
   rcases List.mem_cons.1 h with rfl|h
   ·rw[e];exact List.mem_cons_self ..
   ·exact List.mem_cons_of_mem _ (zY h)
  ·exact List.mem_cons_of_mem _ (zY h)
 | [],g,c,h=>by cases h
def Lib.nil:Lib:=⟨[],(fun p hp=>by cases hp),[],fun p hp=>by cases hp⟩
def Lib.add (L:Lib) (f:FuncId) (c:Ctr) (h:dG Tryz.prog f c):Lib:=⟨(f,c)::L.l,fun p hp=>(List.mem_cons.1 hp).elim (fun e=>by subst e;exact h) (fun hp=>L.ok p hp),L.n,L.okn⟩
noncomputable def Lib.book (L:Lib) (N:Nat) (h:Hint):Book:=⟨Tryz.prog,TR L.l,told h (TR L.n),N,fun _=>false⟩
theorem Lib.good (L:Lib) (N:Nat) (wr:Hint):(L.book N wr).Ok:=⟨fun g c h=>L.ok (g,c) (zY h),fun g c h=>L.okn (g,c) (zY h)⟩
theorem mixed:Tryz.prog.follows .mixedOrders=true:=by kernel_rfl
theorem a9B (L:Lib) {f:FuncId} {fn:Func} {code:Code} {c:Ctr} (hint:Hint) (hf:Tryz.prog.funcs[f]?=some fn) (hb:fn.body=some code) (hargs:c.args.length<=fn.ntmps) (A:(nest c.args).den->List Ann)
  (h:∀ x,c.pre x->vwp (L.book fn.ntmps hint) code (A x) (b2F (L.book fn.ntmps hint) c.res fn.results.toList (c.fn x)) (MP 0 c.args x) []):dG Tryz.prog f c :=
 b1F (B:=L.book fn.ntmps hint) (L.good fn.ntmps hint) mixed hf hb rfl rfl hargs A h
theorem fF (L:Lib) {f:FuncId} {fn:Func} {code:Code} {c:Ctr} (wr:List Nat) (hf:Tryz.prog.funcs[f]?=some fn) (hb:fn.body=some code) (hargs:c.args.length<=fn.ntmps) (A:(nest c.args).den->List Ann)
  (h:∀ x,c.pre x->vwp (L.book fn.ntmps ⟨wr,[],[]⟩) code (A x) (b2F (L.book fn.ntmps ⟨wr,[],[]⟩) c.res fn.results.toList (c.fn x)) (MP 0 c.args x) []):dG Tryz.prog f c :=
 a9B L ⟨wr,[],[]⟩ hf hb hargs A h
theorem vK {F:Nat->Prop} {w:World} {v:Value} {x:Rat} (h:iZ F w (.lf .rat) v x):RQ w v x:=by
 obtain⟨cs,rfl,h2⟩:=h
 exact h2
theorem a4O {F:Nat->Prop} {w:World} {v:Value} {x:Rat} (h:RQ w v x):iZ F w (.lf .rat) v x:=by
 obtain⟨b,p,n,c,b',p',n',c',rfl⟩:=h.form
 exact⟨_,rfl,h⟩
theorem RJ {F:Nat->Prop} {w:World} (b:Bool):iZ F w .bool (.bool b) b:=⟨_,rfl,rfl⟩
theorem b1y {F:Nat->Prop} {w:World} {v:Value} {b:Bool} (h:iZ F w .bool v b):v=.bool b:=by
 obtain⟨cs,rfl,h2⟩:=h
 rw[show cs=_ from h2];rfl
theorem uI {F:Nat->Prop} {w:World} {k:IntKind} (b:Int):iZ F w (.int k) (.int k b) b:=⟨_,rfl,rfl⟩
theorem a0s {F:Nat->Prop} {w:World} {k:IntKind} {v:Value} {b:Int} (h:iZ F w (.int k) v b):v=.int k b:=by
 obtain⟨cs,rfl,h2⟩:=h
 rw[show cs=_ from h2];rfl
abbrev tQ:Ty:=.lf .rat
abbrev tI:Ty:=.int .i64
def cQ2 (pre:Rat->Rat->Prop) (g:Rat->Rat->Rat):Ctr:=⟨[tQ,tQ],[tQ],fun x=>pre x.1 x.2.1,fun x=>(g x.1 x.2.1,())⟩
theorem MX {f:FuncId} {pre:Rat->Rat->Prop} {g:Rat->Rat->Rat} (h:∀ (v u:Value) (x y:Rat) (w:World),RQ w v x->RQ w u y->pre x y->Calls Tryz.prog f #[v,u] w (GQ (g x y) w)):dG Tryz.prog f (cQ2 pre g):=by
 intro F w vs x hF hvs hp
 obtain⟨v,vs',rfl,h1,u,vs'',rfl,h2,h3⟩:=hvs
 have h3:vs''=[]:=h3
 subst h3
 refine(h v u x.1 x.2.1 w (vK h1) (vK h2) hp).mono ?_
 rintro e w' ⟨r,rfl,hr,hb⟩
 exact⟨r,rfl,a4O hr,hb⟩
def cQ1 (pre:Rat->Prop) (g:Rat->Rat):Ctr:=⟨[tQ],[tQ],fun x=>pre x.1,fun x=>(g x.1,())⟩
theorem a6X {f:FuncId} {pre:Rat->Prop} {g:Rat->Rat} (h:∀ (v:Value) (x:Rat) (w:World),RQ w v x->pre x->Calls Tryz.prog f #[v] w (GQ (g x) w)):dG Tryz.prog f (cQ1 pre g):=by
 intro F w vs x hF hvs hp
 obtain⟨v,vs',rfl,h1,h3⟩:=hvs
 have h3:vs'=[]:=h3
 subst h3
 refine(h v x.1 w (vK h1) hp).mono ?_
 rintro e w' ⟨r,rfl,hr,hb⟩
 exact⟨r,rfl,a4O hr,hb⟩
def cIQ (pre:Int->Prop) (g:Int->Rat):Ctr:=⟨[tI],[tQ],fun x=>pre x.1,fun x=>(g x.1,())⟩
theorem a1O {f:FuncId} {pre:Int->Prop} {g:Int->Rat} (h:∀ (x:Int) (w:World),pre x->Calls Tryz.prog f #[.int .i64 x] w (GQ (g x) w)):dG Tryz.prog f (cIQ pre g):=by
 intro F w vs x hF hvs hp
 obtain⟨v,vs',rfl,h1,h3⟩:=hvs
 have h3:vs'=[]:=h3
 subst h3
 rw[a0s h1]
 refine(h x.1 w hp).mono ?_
 rintro e w' ⟨r,rfl,hr,hb⟩
 exact⟨r,rfl,a4O hr,hb⟩
end Go.Proofs.YtidfgdchcpmnfaaGreat
namespace Go.Proofs.YtidfgdchcpmnfaaGreat
open Go.RowKit Go.Shelf
set_option maxRecDepth 100000
set_option maxHeartbeats 4000000
set_option linter.unusedSimpArgs false
set_option linter.unusedVariables false
attribute [local go_sem] Oper.semAt_some
def aG (x:Int):Int:=if -9223372036854775808<=x/\x<9223372036854775808 then x else 0
def aN (x:Int):Bool:=decide (-9223372036854775808<=x/\x<9223372036854775808)
def VJ:Nat:=9223372036854775808
theorem RD:VJ=9223372036854775808:=rfl
structure SBx (B NB:Nat) (b:Bool) (v z:Int) (r:Bool) (W:World):Prop where
 q:W.cell? ⟨B,0,none⟩=some (.bool b)
 c2:W.cell? ⟨B+1,0,none⟩=some (.int .i64 z)
 f2:W.frozen? ⟨B+1,0,none⟩=false
 c3:W.cell? ⟨B+1+1,0,none⟩=some (.bool r)
 f3:W.frozen? ⟨B+1+1,0,none⟩=false
 n:W.cell? ⟨NB,0,none⟩=some (.int .u64 v)
 fn:W.frozen? ⟨NB,0,none⟩=false
theorem SBx.kept {B NB:Nat} {b r:Bool} {v z:Int} {A W:World} {row:Option Nat} (hs:SBx B NB b v z r A) (hg:A.grownBy W row) (hr:∀ k,row=some k->∃ o,A.heap[k]?=some o/\o.isCells=false):SBx B NB b v z r W :=
 ⟨cell_kept hs.q hg hr,cell_kept hs.c2 hg hr,(frozen_kept hs.c2 hg hr).trans hs.f2,cell_kept hs.c3 hg hr,(frozen_kept hs.c3 hg hr).trans hs.f3,cell_kept hs.n hg hr,(frozen_kept hs.n hg hr).trans hs.fn⟩
theorem SBx.b8V {B NB:Nat} {b r:Bool} {v z:Int} {W:World} (h:SBx B NB b v z r W) (hn:B+1+1<NB) (v':Int):SBx B NB b v' z r (W.setCell ⟨NB,0,none⟩ (.int .u64 v')):=by
 refine⟨?_,?_,?_,?_,?_,?_,?_⟩
 ·rw[World.cell?_setCell_far _ _ _ _ (by simp;omega)];exact h.q
 ·rw[World.cell?_setCell_far _ _ _ _ (by simp;omega)];exact h.c2
 ·rw[World.frozen?_setCell];exact h.f2
 ·rw[World.cell?_setCell_far _ _ _ _ (by simp;omega)];exact h.c3
 ·rw[World.frozen?_setCell];exact h.f3
 ·exact World.cell?_setCell_same' _ _ _ (by rw[h.n];rfl)
 ·rw[World.frozen?_setCell];exact h.fn
theorem SBx.a8U {B NB:Nat} {b r:Bool} {v z:Int} {W:World} (h:SBx B NB b v z r W) (hn:B+1+1<NB) (z':Int) (r':Bool):SBx B NB b v z' r' ((W.setCell ⟨B+1,0,none⟩ (.int .i64 z')).setCell ⟨B+1+1,0,none⟩ (.bool r')):=by
 refine⟨?_,?_,?_,?_,?_,?_,?_⟩
 ·rw[World.cell?_setCell_far _ _ _ _ (by simp;omega),World.cell?_setCell_far _ _ _ _ (by simp)];exact h.q
 ·rw[World.cell?_setCell_far _ _ _ _ (by simp)];exact World.cell?_setCell_same' _ _ _ (by rw[h.c2];rfl)
 ·rw[World.frozen?_setCell,World.frozen?_setCell];exact h.f2
 ·exact World.cell?_setCell_same' _ _ _ (by rw[World.cell?_setCell_far _ _ _ _ (by simp)];rw[h.c3];rfl)
 ·rw[World.frozen?_setCell,World.frozen?_setCell];exact h.f3
 ·rw[World.cell?_setCell_far _ _ _ _ (by simp;omega),World.cell?_setCell_far _ _ _ _ (by simp;omega)];exact h.n
 ·rw[World.frozen?_setCell,World.frozen?_setCell];exact h.fn
theorem BF {k:Nat} (h:k<=18446744073709551615):IntKind.u64.wrap (k:Int)=k:=by simp[IntKind.wrap,IntKind.bits,IntKind.signed];omega
theorem VR {z:Int} (h0:0<=z) (h1:z<=18446744073709551615):IntKind.u64.wrap z=z:=by simp[IntKind.wrap,IntKind.bits,IntKind.signed];omega
theorem a6y {k:Nat} (h:k<=9223372036854775807):IntKind.i64.wrap (k:Int)=k:=by simp[IntKind.wrap,IntKind.bits,IntKind.signed];omega
theorem a3s {A:Nat} (h0:0<A) (h1:A<=9223372036854775808):IntKind.i64.wrap (IntKind.u64.wrap (-(A:Int)))=-(A:Int):=by simp[IntKind.wrap,IntKind.bits,IntKind.signed];omega
theorem a0r {l:List Nat} (hl:Low l) {pre:List (Fin l.length)} (h:iQ l.length pre) (hle:pre.length<=l.length):hval l pre<=val l:=by
 rw[TY h hle]
 have e:=val_append (l.take (l.length-pre.length)) (l.drop (l.length-pre.length))
 rw[List.take_append_drop] at e
 have h1:1<=BB ^ (l.take (l.length-pre.length)).length:=Nat.pow_pos iP
 have h2:val (l.drop (l.length-pre.length))<=BB ^ (l.take (l.length-pre.length)).length*val (l.drop (l.length-pre.length)):=Nat.le_mul_of_pos_left _ h1
 omega
theorem a9d (x:Int) (b:Bool) (p:Option Addr) (n c:Nat) (w:World) (hv:Raw w (.agg #[.bool b,.slice p n c]) x) (hlen:(dig x.natAbs).length<=3) (hbx:x≠0->b=decide (x<0)) :
  CallsIn Fence.wide 3 Tryz.prog 135 #[.agg #[.bool b,.slice p n c]] w fun e W'=>e=.returned (.tuple #[.int .i64 (aG x),.bool (aN x)])/\Below w.heap.size w W':=by
 have hro:Fence.wide.round=none:=rfl
 refine callsIn_of_wp_marks Tryz.func135 rfl trivial ?_ hro
 simp only[Tryz.ntmps135,List.size_toArray,List.length_cons,List.length_nil,Nat.reduceAdd,Nat.reduceSub,Array.replicate_succ,Array.replicate_zero,List.push_toArray,List.append_toArray,List.nil_append,List.cons_append]
 have hd3:decide ((3:Int)<(dig x.natAbs).length)=false:=by simp;omega
 have hv1:=((hv.alloc (.cells #[.bool b,.slice p n c] 28)).alloc (.cells #[.int .i64 0] 3)).alloc (.cells #[.bool false] 4)
 have q0:Bx (((w.alloc (.cells #[.bool b,.slice p n c] 28)).alloc (.cells #[.int .i64 0] 3)).alloc (.cells #[.bool false] 4)) w.heap.size [.bool b,.slice p n c]:=((Bx.new w [.bool b,.slice p n c] 28).alloc _).alloc _
 have q1:Bx (((w.alloc (.cells #[.bool b,.slice p n c] 28)).alloc (.cells #[.int .i64 0] 3)).alloc (.cells #[.bool false] 4)) (w.heap.size+1) [.int .i64 0]:=by simpa using (Bx.new (w.alloc (.cells #[.bool b,.slice p n c] 28)) [.int .i64 0] 3).alloc (.cells #[.bool false] 4)
 have q2:Bx (((w.alloc (.cells #[.bool b,.slice p n c] 28)).alloc (.cells #[.int .i64 0] 3)).alloc (.cells #[.bool false] 4)) (w.heap.size+1+1) [.bool false]:=by simpa using Bx.new ((w.alloc (.cells #[.bool b,.slice p n c] 28)).alloc (.cells #[.int .i64 0] 3)) [.bool false] 4
 have hB0:Below w.heap.size w (((w.alloc (.cells #[.bool b,.slice p n c] 28)).alloc (.cells #[.int .i64 0] 3)).alloc (.cells #[.bool false] 4)):=(((Below.refl _ _).alloc (Nat.le_refl _) _).alloc (by simp) _).alloc (by simp;omega) _
 gi_wp2_with (refine⟨trivial,?_⟩;gi_at_call 119;refine(callsIn_wide.2 (dP _ x _ hv1)).mono ?_;rintro e w1 ⟨s1,rfl,hs1,hb1⟩;obtain⟨p1,c1,rfl,hl1,hm1⟩:=hs1.form)
 gi_wp2_with (refine⟨trivial,?_⟩;gi_at_call 164;refine(tJ Fence.wide 2 trivial hro _ _ _ _).mono ?_;rintro e w' ⟨rfl,rfl⟩)
 have hlow:=bK x.natAbs
 have HX:=Lib.hid (aK x.natAbs)
 have HC:=Lib.hid (bH x.natAbs)
 have k0:=q0.to hb1
 have k1:=q1.to hb1
 have k2:=q2.to hb1
 have hBw1:=hB0.trans (hb1.mono (by simp;omega))
 have hz1:=k2.1
 clear hv hv1 q0 q1 q2 hB0 hb1
 generalize hll:dig x.natAbs=l at *
 have bN:=Bx.new w1 [.int .u64 0] 109
 have bS:=Boxed.new (w1.alloc (.cells #[.int .u64 0] 109)) 26 (.slice p1 l.length c1)
 rw[World.size_alloc] at bS
 have hA:Below w1.heap.size w1 ((w1.alloc (.cells #[.int .u64 0] 109)).alloc (.cells #[.slice p1 l.length c1] 26)):=((Below.refl _ w1).alloc (Nat.le_refl _) _).alloc (by simp) _
 refine wpIn_rangeFunc_ownG (n:=3) (α:=Fin l.length) hro (by omega) (gf:=178) (lb:=#[.pointer (some ⟨w1.heap.size+1,0,none⟩)]) rfl trivial (enters_of Tryz.func178 (by kernel_rfl) rfl)
  (vY Fence.wide 2 trivial hro (by omega) (w1.heap.size+1) w1.heap.size _ l _ (by simp) (by simp;omega) bS.cell (hs1.b.below hA)) (fun h k=>KB.trans h k) (KB.b (by simp;omega) (by simp)) (Below.refl _ _) (fun _=>rfl)
  (fun(pre:List (Fin l.length)) W=>(SBx w.heap.size w1.heap.size b (hval l pre:Nat) 0 false W/\hval l pre<=VJ)/\Below w.heap.size w W)
  (fun cd (pre:List (Fin l.length)) W=>(cd=.ret/\(∃ v,SBx w.heap.size w1.heap.size b v 0 false W)/\VJ<hval l pre)/\Below w.heap.size w W)
  (OwnFrom.and (Own.from (fun s A B row hs hg hr=>⟨hs.1.kept hg hr,hs.2⟩) _) (ownFrom_below (Nat.le_refl _) (by simp;omega)))
  (fun c=>OwnFrom.and (Own.from (fun s A B row hs hg hr=>by obtain⟨hc,⟨v,h1⟩,h2⟩:=hs;exact⟨hc,⟨v,h1.kept hg hr⟩,h2⟩) _) (ownFrom_below (Nat.le_refl _) (by simp;omega)))
  ⟨⟨by
    have kk0:=k0.to hA
    have kk1:=k1.to hA
    have kk2:=k2.to hA
    have nn:=bN.alloc (.cells #[.slice p1 l.length c1] 26)
    exact⟨kk0.c0,kk1.c0,kk1.f0,kk2.c0,kk2.f0,nn.c0,nn.f0⟩,by simp[hval,VJ]⟩,hBw1.trans (hA.mono (by omega))⟩
  (fun(x:Fin l.length)=>{ tmps:=#[.agg #[.bool b,.slice p n c],.pointer (some ⟨w.heap.size,0,none⟩),.pointer (some ⟨w.heap.size+1,0,none⟩),.pointer (some ⟨w.heap.size+1+1,0,none⟩),.slice p1 l.length c1,.pointer (some ⟨w1.heap.size,0,none⟩),undef,.int .u32 (gr l x.1:Nat),.agg #[.bool b,.slice p n c],.slice p1 l.length c1,.slice p1 l.length c1,.int .i64 (l.length:Nat),.bool false,.slice p1 l.length c1,.func (.func 178) #[] #[.pointer (some ⟨w1.heap.size+1,0,none⟩)],.int .i64 (x.1:Nat),.int .u32 (gr l x.1:Nat),undef,undef,undef,undef,undef,undef,undef,undef,undef,undef,undef,undef,undef,undef,undef,undef,undef,undef,undef,undef,undef,undef,undef,undef,undef,undef,undef],defers:=[] }) ?assign ?body ?done ?stop
 case assign =>
  intro l x W K hK
  gi_wp2
  exact hK
 case body =>
  rintro lo pre y W ⟨⟨hS,hT⟩,hB⟩ hpl
  have hg:=gK hlow y.1
  have HS:=Lib.hid (AQ l pre y)
  obtain⟨hv,hhv⟩:∃ hv,hval l pre=hv:=⟨_,rfl⟩
  rw[hhv] at hS hT HS
  obtain⟨g,hgg⟩:∃ g,gr l y.1=g:=⟨_,rfl⟩
  rw[hgg] at hg HS ⊢
  have c1':=hS.n
  have f1':=hS.fn
  have c2':=hS.c2
  have f2':=hS.f2
  have c3':=hS.c3
  have f3':=hS.f3
  obtain⟨m,hm⟩:∃ m:Nat,(9223372036854775808:Int)-g=m:=⟨9223372036854775808-g,by omega⟩
  obtain⟨t,ht⟩:∃ t:Nat,(m:Int) / 1000000000=t:=⟨m / 1000000000,by simp⟩
  have hmn:m+g=9223372036854775808:=by omega
  have htn:m / 1000000000=t:=by omega
  have ht9:t<=9223372036:=by omega
  by_cases hle:hv<=t
  ·have hv9:hv<=9223372036:=by omega
   have hs9:hv*1000000000+g<=9223372036854775808:=by omega
   have d1:decide ((t:Int)<hv)=false:=by simp;omega
   have d2:decide (t<hv)=false:=by simp;omega
   have HT:=Lib.hid (show hv*BB+g<=VJ by rw[bG,RD];exact hs9)
   have e1:IntKind.u64.wrap ((hv:Int)*1000000000)=(hv:Int)*1000000000:=VR (by omega) (by omega)
   have e2:IntKind.u64.wrap ((hv:Int)*1000000000+g)=(hv:Int)*1000000000+g:=VR (by omega) (by omega)
   have e3:IntKind.u64.wrap (m:Int)=m:=BF (by omega)
   have e4:IntKind.u64.wrap (t:Int)=t:=BF (by omega)
   clear hmn htn hs9 hT
   gi_wp2
   exact⟨(KeepsOthers.setCell _ _ _).from _,KB.setCell (p:=⟨w1.heap.size,0,none⟩) (Nat.le_refl _) (by simp) _,⟨by rw[HS.out,bG];simpa using hS.b8V hz1 ((hv:Int)*1000000000+g),by rw[HS.out];exact HT.out⟩,hB.setCell (p:=⟨w1.heap.size,0,none⟩) (by simp;omega) _⟩
  ·have d1:decide ((t:Int)<hv)=true:=by simp;omega
   have d2:decide (t<hv)=true:=by simp;omega
   have e3:IntKind.u64.wrap (m:Int)=m:=BF (by omega)
   have e4:IntKind.u64.wrap (t:Int)=t:=BF (by omega)
   have HT:=Lib.hid (show VJ<hv*BB+g by rw[bG,RD];omega)
   clear hmn htn hT hle
   gi_wp2
   exact⟨((KeepsOthers.setCell _ _ _).trans (KeepsOthers.setCell _ _ _)).from _,⟨rfl,⟨_,hS.a8U hz1 0 false⟩,by rw[HS.out];exact HT.out⟩,(hB.setCell (p:=⟨w.heap.size+1,0,none⟩) (by simp) _).setCell (p:=⟨w.heap.size+1+1,0,none⟩) (by simp;omega) _⟩
 case done =>
  rintro D ys W hD ⟨hbk,hyl⟩ ⟨⟨hS,hT⟩,hB⟩ hK
  rw[a0q hbk hyl] at hS hT
  obtain⟨A,hA'⟩:∃ A,val l=A:=⟨_,rfl⟩
  rw[hA'] at hS hT HX
  have hxA:=HX.out
  have q1':=hS.q
  have c1':=hS.n
  have f1':=hS.fn
  have c2':=hS.c2
  have f2':=hS.f2
  have c3':=hS.c3
  have f3':=hS.f3
  have hA0:l=[]↔A=0:=by
   rw[<-hll,jB];omega
  have a7A:A<=9223372036854775808:=hT
  have hlz:l.length=0↔A=0:=by rw[<-hA0];exact List.length_eq_zero_iff
  by_cases hneg:x<0
  ·have hb:b=true:=by rw[hbx (by omega)];simpa using hneg
   subst hb
   have hl0:decide ((0:Int)<l.length)=true:=by simp;omega
   have hl0':decide (0<l.length)=true:=by simp;omega
   have hw:=a3s (A:=A) (by omega) a7A
   have HF:Hid (aG x=-(A:Int)/\aN x=true):=by
    unfold Hid aG aN
    rw[if_pos (by omega)]
    exact⟨by omega,by simp;omega⟩
   have hpos:0<l.length:=by simpa using hl0'
   clear hT a7A hlz hA0 hxA hneg
   gi_wp2
   have hS2:=hS.a8U hz1 (-(A:Int)) true
   have hK':=((KeepsOthers.setCell W ⟨w.heap.size+1,0,none⟩ (.int .i64 (-(A:Int)))).trans (KeepsOthers.setCell _ ⟨w.heap.size+1+1,0,none⟩ (.bool true))).same D _ hK rfl
   refine⟨by simp,.inl ⟨_,_,rfl,run_takeDeferred hK',?_⟩⟩
   have hS':=hS2.kept (grownBy_putObj' _ D (.deferred none)) (fun r e=>by cases e;exact⟨_,hK',rfl⟩)
   refine⟨.tuple #[.int .i64 (-(A:Int)),.bool true],?_,by rw[HF.out.1,HF.out.2],((hB.setCell (p:=⟨w.heap.size+1,0,none⟩) (by simp) _).setCell (p:=⟨w.heap.size+1+1,0,none⟩) (by simp;omega) _).trans (belowK_b (w:=w) (Nat.le_refl _) _ D _ _ (by simp at hD;omega) hK' rfl rfl)⟩
   simp[results,Tryz.results135,go_sem,hS'.c2,hS'.c3]
  ·have hxe:x=(A:Int):=by omega
   by_cases ht:A=9223372036854775808
   ·have hb:b=false:=by rw[hbx (by omega)];simpa using hneg
    subst hb
    have hl0:decide ((0:Int)<l.length)=true:=by simp;omega
    have hl0':decide (0<l.length)=true:=by simp;omega
    have hpos:0<l.length:=by simpa using hl0'
    have hq:((A:Int)==9223372036854775808)=true:=by simp;omega
    have HF:Hid (aG x=0/\aN x=false):=by
     unfold Hid aG aN
     rw[if_neg (by omega)]
     exact⟨rfl,by simp;omega⟩
    have HT:=Lib.hid ht
    clear hT a7A hlz hA0 hxA hneg hxe ht
    gi_wp2
    have hS2:=hS.a8U hz1 (0) false
    have hK':=((KeepsOthers.setCell W ⟨w.heap.size+1,0,none⟩ (.int .i64 (0))).trans (KeepsOthers.setCell _ ⟨w.heap.size+1+1,0,none⟩ (.bool false))).same D _ hK rfl
    refine⟨by simp,.inl ⟨_,_,rfl,run_takeDeferred hK',?_⟩⟩
    have hS':=hS2.kept (grownBy_putObj' _ D (.deferred none)) (fun r e=>by cases e;exact⟨_,hK',rfl⟩)
    refine⟨.tuple #[.int .i64 (0),.bool false],?_,by rw[HF.out.1,HF.out.2],((hB.setCell (p:=⟨w.heap.size+1,0,none⟩) (by simp) _).setCell (p:=⟨w.heap.size+1+1,0,none⟩) (by simp;omega) _).trans (belowK_b (w:=w) (Nat.le_refl _) _ D _ _ (by simp at hD;omega) hK' rfl rfl)⟩
    simp[results,Tryz.results135,go_sem,hS'.c2,hS'.c3]
   ·have hq:((A:Int)==9223372036854775808)=false:=by simp;omega
    have hw:IntKind.i64.wrap (A:Int)=A:=a6y (by omega)
    have hA9:A<=9223372036854775807:=by omega
    have HF:Hid (aG x=(A:Int)/\aN x=true):=by
     unfold Hid aG aN
     rw[if_pos (by omega)]
     exact⟨hxe,by simp;omega⟩
    by_cases hl:l=[]
    ·have hl0:decide ((0:Int)<l.length)=false:=by rw[hl];rfl
     have hl0':decide (0<l.length)=false:=by rw[hl];rfl
     have hl9:¬ 0<l.length:=by simpa using hl0'
     have HT:=Lib.hid ht
     have HL:=Lib.hid hl
     clear hT a7A hlz hA0 hxA hneg hxe ht hl
     gi_wp2
     have hS2:=hS.a8U hz1 (A:Int) true
     have hK':=((KeepsOthers.setCell W ⟨w.heap.size+1,0,none⟩ (.int .i64 (A:Int))).trans (KeepsOthers.setCell _ ⟨w.heap.size+1+1,0,none⟩ (.bool true))).same D _ hK rfl
     refine⟨by simp,.inl ⟨_,_,rfl,run_takeDeferred hK',?_⟩⟩
     have hS':=hS2.kept (grownBy_putObj' _ D (.deferred none)) (fun r e=>by cases e;exact⟨_,hK',rfl⟩)
     refine⟨.tuple #[.int .i64 (A:Int),.bool true],?_,by rw[HF.out.1,HF.out.2],((hB.setCell (p:=⟨w.heap.size+1,0,none⟩) (by simp) _).setCell (p:=⟨w.heap.size+1+1,0,none⟩) (by simp;omega) _).trans (belowK_b (w:=w) (Nat.le_refl _) _ D _ _ (by simp at hD;omega) hK' rfl rfl)⟩
     simp[results,Tryz.results135,go_sem,hS'.c2,hS'.c3]
    ·have hl8:0<l.length:=List.length_pos_iff.2 hl
     have hb:b=false:=by rw[hbx (by omega)];simpa using hneg
     subst hb
     have hl0:decide ((0:Int)<l.length)=true:=by simp;omega
     have hl0':decide (0<l.length)=true:=by simp;omega
     have HT:=Lib.hid ht
     have HL:=Lib.hid hl
     clear hT a7A hlz hA0 hxA hneg hxe ht hl
     gi_wp2
     have hS2:=hS.a8U hz1 (A:Int) true
     have hK':=((KeepsOthers.setCell W ⟨w.heap.size+1,0,none⟩ (.int .i64 (A:Int))).trans (KeepsOthers.setCell _ ⟨w.heap.size+1+1,0,none⟩ (.bool true))).same D _ hK rfl
     refine⟨by simp,.inl ⟨_,_,rfl,run_takeDeferred hK',?_⟩⟩
     have hS':=hS2.kept (grownBy_putObj' _ D (.deferred none)) (fun r e=>by cases e;exact⟨_,hK',rfl⟩)
     refine⟨.tuple #[.int .i64 (A:Int),.bool true],?_,by rw[HF.out.1,HF.out.2],((hB.setCell (p:=⟨w.heap.size+1,0,none⟩) (by simp) _).setCell (p:=⟨w.heap.size+1+1,0,none⟩) (by simp;omega) _).trans (belowK_b (w:=w) (Nat.le_refl _) _ D _ _ (by simp at hD;omega) hK' rfl rfl)⟩
     simp[results,Tryz.results135,go_sem,hS'.c2,hS'.c3]
 case stop =>
  rintro D cd pre W hD ⟨hbk,hpl⟩ ⟨⟨rfl,⟨v,hS⟩,hgt⟩,hB⟩ hK
  have hle:=a0r hlow hbk hpl
  have HF:Hid (aG x=0/\aN x=false):=by
   have h1:=HX.out
   rw[RD] at hgt
   unfold Hid aG aN
   rw[if_neg (by omega)]
   exact⟨rfl,by simp;omega⟩
  clear hle hgt
  gi_wp2
  refine⟨by simp,.inl ⟨_,_,rfl,run_takeDeferred hK,?_⟩⟩
  have hS':=hS.kept (grownBy_putObj' _ D (.deferred none)) (fun r e=>by cases e;exact⟨_,hK,rfl⟩)
  refine⟨.tuple #[.int .i64 0,.bool false],?_,by rw[HF.out.1,HF.out.2],hB.trans (belowK_b (w:=w) (Nat.le_refl _) W D _ _ (by simp at hD;omega) hK rfl rfl)⟩
  simp[results,Tryz.results135,go_sem,hS'.c2,hS'.c3]
theorem a3d (x:Int) (b:Bool) (p:Option Addr) (n c:Nat) (w:World) (hv:Raw w (.agg #[.bool b,.slice p n c]) x) (hlen:3<(dig x.natAbs).length) :
  Calls Tryz.prog 135 #[.agg #[.bool b,.slice p n c]] w fun e W'=>e=.returned (.tuple #[.int .i64 (aG x),.bool (aN x)])/\Below w.heap.size w W':=by
 have hd3:decide ((3:Int)<(dig x.natAbs).length)=true:=by simp;omega
 have hv1:=((hv.alloc (.cells #[.bool b,.slice p n c] 28)).alloc (.cells #[.int .i64 0] 3)).alloc (.cells #[.bool false] 4)
 have q1:Bx (((w.alloc (.cells #[.bool b,.slice p n c] 28)).alloc (.cells #[.int .i64 0] 3)).alloc (.cells #[.bool false] 4)) (w.heap.size+1) [.int .i64 0]:=by simpa using (Bx.new (w.alloc (.cells #[.bool b,.slice p n c] 28)) [.int .i64 0] 3).alloc (.cells #[.bool false] 4)
 have q2:Bx (((w.alloc (.cells #[.bool b,.slice p n c] 28)).alloc (.cells #[.int .i64 0] 3)).alloc (.cells #[.bool false] 4)) (w.heap.size+1+1) [.bool false]:=by simpa using Bx.new ((w.alloc (.cells #[.bool b,.slice p n c] 28)).alloc (.cells #[.int .i64 0] 3)) [.bool false] 4
 have hB0:Below w.heap.size w (((w.alloc (.cells #[.bool b,.slice p n c] 28)).alloc (.cells #[.int .i64 0] 3)).alloc (.cells #[.bool false] 4)):=(((Below.refl _ _).alloc (Nat.le_refl _) _).alloc (by simp) _).alloc (by simp;omega) _
 have HF:Hid (aG x=0/\aN x=false):=by
  have h1:=oQ hlen
  rw[bG] at h1
  unfold Hid aG aN
  rw[if_neg (by omega)]
  exact⟨rfl,by simp;omega⟩
 go_enter Tryz.func135,Tryz.ntmps135
 go_wp2_with fail
 refine(dP _ x _ hv1).mono ?_
 rintro e w1 ⟨s1,rfl,hs1,hb1⟩
 obtain⟨p1,c1,rfl,hl1,hm1⟩:=hs1.form
 have k1:=q1.to hb1
 have k2:=q2.to hb1
 have r0:=k1.c0
 have f0:=k1.f0
 have r1:=k2.c0
 have f1:=k2.f0
 have hBw1:=Below.tr hB0 hb1
 go_wp2_with fail
 exact bodyPost_ret (v:=.tuple #[.int .i64 0,.bool false]) (by simp[results,Tryz.results135,go_sem,r0,r1]) rfl ⟨by rw[HF.out.1,HF.out.2],(hBw1.setCell (p:=⟨w.heap.size+1,0,none⟩) (by simp) _).setCell (p:=⟨w.heap.size+1+1,0,none⟩) (by simp;omega) _⟩
theorem a6k (v:Value) (x:Int) (w:World) (hv:Raw w v x) :
  Calls Tryz.prog 135 #[v] w fun e W'=>e=.returned (.tuple #[.int .i64 (aG x),.bool (aN x)])/\Below w.heap.size w W':=by
 obtain⟨b,p,n,c,rfl⟩:=hv.form
 by_cases h:(dig x.natAbs).length<=3
 ·exact callsIn_wide.1 (a9d x b p n c w hv h (fun h=>hv.sign h))
 ·exact a3d x b p n c w hv (by omega)
end Go.Proofs.YtidfgdchcpmnfaaGreat
