/-
  Lemmas for the theorem vdecomposes28_holds, part 14 of 34.
-/
import Derived.Tactics
import Derived.Test.YtbkocjmmbkifjaaGreatQd13
namespace Go.Proofs.YtbkocjmmbkifjaaGreat
open Go Go.RowKit
theorem zh:type_of% @List.mem_append_left:=@List.mem_append_left
theorem Bg:type_of% @List.mem_append_right:=@List.mem_append_right
theorem yw:type_of% @List.mem_flatMap:=@List.mem_flatMap
section
set_option linter.unusedSimpArgs false
set_option linter.unusedVariables false
abbrev Gam:=List (Nat × K)
abbrev Rho:=List (Nat × Res)
def aY:Gam->Nat->K
 | [],_=>.any
 | (s,k)::G,q=>if q=s then k else aY G q
def aS:Rho->Nat->Res
 | [],_=>.none
 | (s,x)::R,q=>if q=s then x else aS R q
def b7S (r:Nat) (R:Rho):Rho:=R.filter fun p=>p.1 != r
theorem SA {r q:Nat} (h:q≠r):∀ (R:Rho),aS (b7S r R) q=aS R q
 | []=>rfl
 | (s,x)::R=>by
  unfold b7S
  rw[List.filter_cons]
  split
  ·simp only[aS]
   split
   ·rfl
   ·exact SA h R
  ·rename_i hs
   have hs:s=r:=by simpa using hs
   simp only[aS]
   rw[eu (by rw[hs];exact h)]
   exact SA h R
def aft (R:Rho):List (Nat × Res)->Rho
 | []=>R
 | q::l=>aft (q::b7S q.1 R) l
theorem oO:∀ (l:List (Nat × Res)) (R:Rho),aS (aft R l)=after (aS R) l
 | [],_=>rfl
 | (r,x)::l,R=>by
  rw[aft,oO l,after]
  congr 1
  funext q
  simp only[aS]
  unfold bG
  split
  ·rfl
  ·rename_i h;exact SA h R
def opK (G:Nat->K):Operand->K
 | .tmp s=>G s
 | .const v=>xP v
 | .func f=>.val (.clo f .unit) ()
 | .global _=>.any
def unW:K->K
 | .when _ k=>k
 | k=>k
def a8M:K->List Cd
 | .when b _=>[b=true]
 | _=>[]
def tmpsOf (op:Op):List Nat:=op.operands.toList.filterMap fun x=>match x with
 | .tmp s=>some s
 | _=>none
def jH (ts:List Nat) (G:Nat->K) (s:Nat):K:=if ts.contains s then G s else .any
def keepW (op:Op) (s:Nat):Bool:=match op with
 | .pick (.tmp c) _ _=>c != s
 | _=>false
def unG (op:Op) (G:Nat->K) (s:Nat):K:=if keepW op s then G s else unW (G s)
def ND (op:Op) (s:Nat) (k:K):List Cd:=if keepW op s then [] else a8M k
structure Book where
 P:Program
 C:FuncId->List At->List Ctr
 T:Told
 N:Nat
 keep:Nat->Bool
def Book.Ok (B:Book):Prop:=(∀ g ts,∀ c ∈ B.C g ts,aH B.P g c)/\∀ g ts,∀ c ∈ B.T.nc g ts,NOk B.P g c
def eqb (c b:Bool):Bool:=c==b
def a8Y (B:Book):Option Nat->Bool
 | some d=>decide (d<B.N)&&!B.keep d
 | none=>true
def a9s (g:Bool):List Cd->List Cd
 | []=>[]
 | p::ps=>[g=true->dH (p::ps)]
theorem a6T {g:Bool} {l:List Cd} (h:dH (a9s g l)) (hg:g=true):dH l:=by
 cases l with
 | nil=>trivial
 | cons p ps=>exact h.1 hg
def gdK (b:Bool):K->Option Bool
 | .val .bool c=>some (eqb c b)
 | .when r (.val .bool c)=>some (r&&eqb c b)
 | _=>none
def a1B (B:Book) (ρ:Nat->Res) (k:Operand->K) (d:Option Nat) (op:Op):MK:=match gOp B.P B.T k op with
 | some (vc,kk)=>some (vc,kk,[])
 | none=>pW B.P B.C B.T ρ k d op
def xA (B:Book) (G:Nat->K) (ρ:Nat->Res) (ops:Array Oper) (o:Oper):MK:=if a8Y B o.dst then (match o.guard with
 | none=>pW B.P B.C B.T ρ (opK (jH (tmpsOf o.op) G)) o.dst o.op
 | some (j,b)=>match (ops[j]?).bind (·.dst) with
  | some s=>match gdK b (G s) with
   | some g=>match a1B B ρ (opK (jH (tmpsOf o.op) (unG o.op G))) o.dst o.op with
    | some (vc,k,[])=>some (a9s g ((tmpsOf o.op).flatMap (fun s=>ND o.op s (G s))++vc),.when g k,[])
    | _=>none
   | none=>none
  | none=>none) else none
def a0G (d:Option Nat) (k:K):List (Nat × K):=match d with
 | some d=>[(d,k)]
 | none=>[]
def iL {α:Type} (f:Nat->α):List (Nat × α)->Nat->α
 | []=>f
 | (r,x)::l=>iL (bG f r x) l
theorem qV:∀ (l:List (Nat × Res)) (ρ:Nat->Res),after ρ l=iL ρ l
 | [],_=>rfl
 | (_,_)::l,_=>qV l _
def b4K (d:Option Nat) (k:K) (G:Gam):Gam:=match d with
 | some d=>(d,k)::G
 | none=>G
theorem wU (G:Gam) (d:Option Nat) (k:K):aY (b4K d k G)=iL (aY G) (a0G d k):=by
 cases d with
 | none=>rfl
 | some d =>
  funext q
  show aY ((d,k)::G) q=bG (aY G) d k q
  simp only[aY]
  unfold bG
  split
  ·rfl
  ·rfl
structure Fits (E:Env) (ρ:Nat->Res) (w:World) (B:Book) (a:Act) (G:Nat->K):Prop where
 size:a.tmps.size=B.N
 defers:a.defers=[]
 wf:∀ s,(G s).wf ρ
 holds:∀ s,(G s).holds E ρ w (a.eval (.tmp s))
 par:∀ s,B.keep s=true->a.eval (.tmp s)=E.par s
section
variable {B:Book} {E:Env} {ρ:Nat->Res} {W w:World} {G:Nat->K} {a:Act}
theorem b0T {c:Bool} {ka kb k:K} {vc:List Cd} (h:lF c ka kb=some (vc,k)):k.wf ρ:=by
 cases ka<;>try (simp[lF] at h;done)
 case val t x =>
  cases kb<;>try (simp[lF] at h;done)
  case val t' y =>
   simp only[lF,ig,au] at h
   obtain⟨y',h1,rfl,rfl⟩:=h
   trivial
  case when b kb =>
   cases kb<;>try (simp[lF] at h;done)
   case val t' y =>
    simp only[lF,ig,au] at h
    obtain⟨y',h1,rfl,rfl⟩:=h
    trivial
 case when b ka =>
  cases ka<;>try (simp[lF] at h;done)
  case val t x =>
   cases kb<;>try (simp[lF] at h;done)
   case val t' y =>
    simp only[lF,ig,au] at h
    obtain⟨y',h1,rfl,rfl⟩:=h
    trivial
   case when b' kb =>
    cases kb<;>try (simp[lF] at h;done)
    case val t' y =>
     simp only[lF,ig,au] at h
     obtain⟨y',h1,rfl,rfl⟩:=h
     trivial
def K.isVal:K->Bool
 | .val _ _=>true
 | _=>false
theorem JC {k:K} (h:k.isVal=true):k.wf ρ:=by cases k<;>simp_all [K.isVal];trivial
theorem a9M {op:BinOp} {k:IntKind} {a b:Int} {vc:List Cd} {kk:K} (h:a9L op k a b=some (vc,kk)):kk.isVal=true:=by
 cases op<;>simp only[a9L,ah,au] at h<;>first|(cases h;done)|(obtain⟨_,rfl⟩:=h;rfl)
theorem b3p {op:BinOp} {a b:Bool} {vc:List Cd} {kk:K} (h:eqB op a b=some (vc,kk)):kk.isVal=true:=by
 cases op<;>simp only[eqB,ah,au] at h<;>first|(cases h;done)|(obtain⟨_,rfl⟩:=h;rfl)
theorem RJ {r:Bool} {P:Program} {s:TypeId} {i:Nat} {ty:Ty} {y:ty.den} {vc:List Cd} {kk:K} (h:zQ r P s i ty y=some (vc,kk)):kk.isVal=true:=by
 unfold zQ at h
 split at h<;>try(cases h;done)
 split at h<;>try(cases h;done)
 simp only[ah,au] at h
 obtain⟨_,rfl⟩:=h
 cases r<;>rfl
theorem YA {P:Program} {k:Operand->K} {op:Op} {vc:List Cd} {kk:K} (h:fD P k op=some (vc,kk)) (hw:∀ x,(k x).wf ρ):kk.wf ρ:=by
 cases op<;>try (simp[fD] at h;done)
 case move x=>simp only[fD,ah,au] at h;rw[<-h.2];exact hw x
 case assign x=>simp only[fD,ah,au] at h;rw[<-h.2];exact hw x
 case pick c a b =>
  simp only[fD] at h
  split at h<;>first|(cases h;done)|exact b0T h
 case call c =>
  obtain⟨cl,xs,ts⟩:=c
  cases cl<;>try (simp[fD] at h;done)
  rename_i bi
  cases bi<;>try (simp[fD] at h;done)
  simp only[fD] at h
  (repeat' split at h)<;>first|(cases h;done)|(simp only[LX,b7G,ah,au] at h;rw[<-h.2];trivial)
 case unOp op t x =>
  cases op<;>simp only[fD] at h<;>try(cases h;done)
  all_goals (split at h<;>first|(cases h;done)|(simp only[b7R,b7O,YV,ah,au] at h;rw[<-h.2];trivial))
 case binOp op t x y yt =>
  simp only[fD] at h
  split at h<;>try(cases h;done)
  ·split at h<;>first|(cases h;done)|exact JC (a9M h)
  ·split at h<;>first|(cases h;done)|exact JC (b3p h)
  ·split at h<;>first|(cases h;done)|(rename_i hb;cases op<;>simp only[b4k,ah,au] at h<;>first|(cases h;done)|(rw[<-h.2];trivial))
  ·split at h<;>try(cases h;done)
   split at h<;>try(cases h;done)
   cases op<;>simp only[eqS,ah,au] at h<;>first|(cases h;done)|(rw[<-h.2];trivial)
 case extract x i =>
  simp only[fD] at h
  split at h<;>try(cases h;done)
  ·split at h<;>first|(cases h;done)|(simp only[ah,au] at h;rw[<-h.2];trivial)
  ·rename_i ks hkx
   have hwx:=hw x
   rw[hkx] at hwx
   split at h<;>first|(cases h;done)|(simp only[ah,au] at h;rw[<-h.2])
   rename_i e
   exact SL.1 (hwx _ (Bz e))
 case field s x i =>
  simp only[fD] at h
  split at h<;>first|(cases h;done)|exact JC (RJ h)
 case fieldAddr s x i =>
  simp only[fD] at h
  split at h<;>first|(cases h;done)|exact JC (RJ h)
 all_goals
  simp only[fD] at h
  (repeat' split at h)<;>first|(cases h;done)|(simp only[II,a4U,b3I,YV,ah,au] at h;rw[<-h.2];trivial)
theorem a6L (v:Value):(xP v).wf ρ:=by unfold xP;split<;>trivial
theorem JR (hf:Fits E ρ w B a G):(∀ x,(opK G x).wf ρ)/\∀ x,(opK G x).holds E ρ w (a.eval x):=by
 constructor
 ·intro x
  cases x with
  | tmp s=>exact hf.wf s
  | const v=>exact a6L v
  | func f=>trivial
  | global g=>trivial
 ·intro x
  cases x with
  | tmp s=>exact hf.holds s
  | const v=>exact a6K v
  | func f=>exact⟨[.func (.func f) #[] #[]],rfl,[],rfl,rfl⟩
  | global g=>trivial
theorem Fits.put {E':Env} {ρ':Nat->Res} {w':World} {o:Oper} {k:K} {v:Value} (hf:Fits E ρ w B a G) (hx:Ext E ρ w E' ρ' w') (hd:a8Y B o.dst=true) (hw:k.wf ρ') (hk:k.holds E' ρ' w' v):Fits E' ρ' w' B (a.put o.dst v) (iL G (a0G o.dst k)):=by
 cases hod:o.dst with
 | none=>exact⟨hf.size,hf.defers,fun s=>hx.wf _ (hf.wf s),fun s=>hx.holds _ _ (hf.wf s) (hf.holds s),fun s hs=>by rw[hx.par];exact hf.par s hs⟩
 | some d =>
  rw[hod] at hd
  have hd:d<B.N/\B.keep d=false:=by simpa [a8Y] using hd
  obtain⟨hd,hkd⟩:=hd
  refine⟨by simpa [Act.put] using hf.size,hf.defers,fun s=>?_,fun s=>?_,fun s hs=>?_⟩
  ·show K.wf ρ' (bG G d k s)
   unfold bG
   split
   ·exact hw
   ·exact hx.wf _ (hf.wf s)
  ·show K.holds E' ρ' w' (bG G d k s) _
   unfold bG
   split
   ·rename_i e
    subst e
    have:(a.put (some s) v).eval (.tmp s)=v:=by
     have hs9:=hf.size
     have hs8:s<a.tmps.size:=by rw[hs9];exact hd
     simp[Act.put,Act.eval,jk,hs8]
    rw[this];exact hk
   ·rename_i e
    have:(a.put (some d) v).eval (.tmp s)=a.eval (.tmp s):=by
     simp[Act.put,Act.eval,jk,Array.getElem?_setIfInBounds,show ¬ d=s from fun e'=>e e'.symm]
    rw[this];exact hx.holds _ _ (hf.wf s) (hf.holds s)
  ·have e:¬ d=s:=fun e=>by subst e;rw[hkd] at hs;cases hs
   have:(a.put (some d) v).eval (.tmp s)=a.eval (.tmp s):=by
    simp[Act.put,Act.eval,jk,Array.getElem?_setIfInBounds,e]
   rw[this,hx.par];exact hf.par s hs
theorem c1t {k:K} (h:k.wf ρ) (hc:dH (a8M k)):(unW k).wf ρ:=by cases k<;>first|exact h|exact h hc.1
theorem a7T {k:K} {v:Value} (h:k.holds E ρ w v) (hc:dH (a8M k)):(unW k).holds E ρ w v:=by cases k<;>first|exact h|exact h.1 hc.1
theorem sO {α:Type _} {f:α->List Cd}:∀ {l:List α} {s:α},dH (l.flatMap f)->s ∈ l->dH (f s)
 | x::l,s,h,hs=>by
  rw[List.flatMap_cons] at h
  obtain⟨h1,h2⟩:=dG.1 h
  rcases jw.1 hs with rfl|hs
  ·exact h1
  ·exact sO h2 hs
theorem a7m {ts:List Nat} (hf:Fits E ρ w B a G):Fits E ρ w B a (jH ts G):=by
 refine⟨hf.size,hf.defers,fun s=>?_,fun s=>?_,hf.par⟩
 ·unfold jH;split
  ·exact hf.wf s
  ·trivial
 ·unfold jH;split
  ·exact hf.holds s
  ·trivial
theorem a3y {ts:List Nat} {op:Op} (hf:Fits E ρ w B a G) (hc:dH (ts.flatMap fun s=>ND op s (G s))):Fits E ρ w B a (jH ts (unG op G)):=by
 refine⟨hf.size,hf.defers,fun s=>?_,fun s=>?_,hf.par⟩
 ·unfold jH;split
  ·rename_i hs
   have hc:=sO hc (show s ∈ ts by simpa using hs)
   unfold unG;unfold ND at hc
   split
   ·exact hf.wf s
   ·rename_i hk;rw[eu hk] at hc;exact c1t (hf.wf s) hc
  ·trivial
 ·unfold jH;split
  ·rename_i hs
   have hc:=sO hc (show s ∈ ts by simpa using hs)
   unfold unG;unfold ND at hc
   split
   ·exact hf.holds s
   ·rename_i hk;rw[eu hk] at hc;exact a7T (hf.holds s) hc
  ·trivial
theorem a2c (hB:B.Ok) {ops:Array Oper} {o:Oper} {vc:List Cd} {kk:K} {l:List (Nat × Res)} (h:xA B G ρ ops o=some (vc,kk,l)) (hv:dH vc) (hM:Mem E ρ W w) (hf:Fits E ρ w B a G)
  {next:Act->World->Prop} {Q:Exit->Act->World->Prop} (hn:∀ v w' E',Mem E' (after ρ l) W w'->Ext E ρ w E' (after ρ l) w'->kk.wf (after ρ l)->kk.holds E' (after ρ l) w' v->next (a.put o.dst v) w') :
  if Region.wanted o (yielded ops a.tmps) then o.wp B.P a w next Q\/(o.asks B.P a w/\LetsOut Q) else next (a.put o.dst undef) w:=by
 unfold xA at h
 split at h<;>try(cases h;done)
 rename_i hd
 cases hg:o.guard with
 | none =>
  simp only[hg] at h
  obtain⟨h1,h2⟩:=JR (a7m (ts:=tmpsOf o.op) hf)
  have hw:Region.wanted o (yielded ops a.tmps)=true:=by simp[Region.wanted,hg]
  rw[iw hw]
  exact .inl (YM hB.1 hB.2 h hv hM h1 h2 (fun vc' kk' hp=>YA hp h1) next Q hn)
 | some jb =>
  obtain⟨j,b⟩:=jb
  simp only[hg] at h
  split at h<;>try(cases h;done)
  rename_i s hs
  split at h<;>try(cases h;done)
  rename_i g hks
  split at h<;>try(cases h;done)
  rename_i vc1 k1 hst
  simp only[ah,au] at h
  obtain⟨rfl,rfl,rfl⟩:=h
  have hwn:Region.wanted o (yielded ops a.tmps)=g:=by
   have hsv:=hf.holds s
   have hv1:∀ c:Bool,a.tmps.getD s undef=.bool c->Region.wanted o (yielded ops a.tmps)=eqb c b:=fun c h1=>by
    have ht:a.tmps[s]?=some (.bool c):=by
     rw[jk] at h1
     cases h2:a.tmps[s]? with
     | none=>rw[h2] at h1;cases h1
     | some v=>rw[h2] at h1;exact ql some h1
    simp[Region.wanted,hg,yielded,hs,ht]
    rfl
   have hv2:a.tmps.getD s undef=undef->Region.wanted o (yielded ops a.tmps)=false:=fun h1=>by
    rw[jk] at h1
    cases h2:a.tmps[s]? with
    | none=>simp[Region.wanted,hg,yielded,hs,h2]
    | some v =>
     rw[h2] at h1
     have h1:v=undef:=h1
     subst h1
     simp[Region.wanted,hg,yielded,hs,h2]
     try first|rfl|(intro e;cases e;done)|(simp[undef];done)|(unfold undef;simp;done)
   unfold gdK at hks
   split at hks<;>first|(cases hks;done)|skip
   ·rename_i c hk
    rw[hk] at hsv
    have hsv:=pY hsv
    simp only[ah] at hks
    rw[<-hks];exact hv1 c hsv
   ·rename_i r c hk
    rw[hk] at hsv
    simp only[ah] at hks
    rw[<-hks]
    cases r with
    | true=>have hsv:=pY (hsv.1 rfl);exact hv1 c hsv
    | false=>exact hv2 (hsv.2 rfl)
  rw[hwn]
  by_cases hcb:g=true
  ·rw[iw hcb]
   obtain⟨hv1,hv2⟩:=dG.1 (a6T hv hcb)
   obtain⟨h1,h2⟩:=JR (a3y hf hv1)
   unfold a1B at hst
   split at hst
   ·rename_i vc2 k2 hgo
    simp only[ah,au] at hst
    obtain⟨rfl,rfl,_⟩:=hst
    exact .inl ((b7i hgo hv2 hM h2).steps next Q (fun v w' E' m1 m2 m3 m4=>hn v w' E' m1 m2 (fun _=>m3) ⟨fun _=>m4,fun e=>by rw[hcb] at e;cases e⟩))
   ·exact .inl (YM hB.1 hB.2 hst hv2 hM h1 h2 (fun vc' kk' hp=>YA hp h1) next Q (fun v w' E' m1 m2 m3 m4=>hn v w' E' m1 m2 (fun _=>m3) ⟨fun _=>m4,fun e=>by rw[hcb] at e;cases e⟩))
  ·rw[eu hcb]
   exact hn undef w E hM (Ext.refl _ _ _) (fun e=>absurd e hcb) ⟨fun e=>absurd e hcb,fun _=>rfl⟩
def yK (B:Book) (ops:Array Oper):List Oper->Gam->Rho->Option (List Cd × Gam × Rho)
 | [],G,R=>some ([],G,R)
 | o::rest,G,R=>match xA B (aY G) (aS R) ops o with
  | some (vc,k,l)=>match yK B ops rest (b4K o.dst k G) (aft R l) with
   | some (vc',G',R')=>some (vc++vc',G',R')
   | none=>none
  | none=>none
theorem XW {ops:Array Oper} {o:Oper} {x:List Cd × K × List (Nat × Res)} (h:xA B G ρ ops o=some x):a8Y B o.dst=true:=by
 unfold xA at h
 split at h
 ·assumption
 ·cases h
theorem YI (hB:B.Ok) {ops:Array Oper} {Q:Exit->Act->World->Prop}:∀ {l:List Oper} {G:Gam} {R:Rho} {E:Env} {w:World} {a:Act} {vc:List Cd} {G':Gam} {R':Rho},yK B ops l G R=some (vc,G',R')->dH vc->Mem E (aS R) W w->Fits E (aS R) w B a (aY G) ->
  (∀ E' a' w',E'.fix=E.fix->Mem E' (aS R') W w'->Fits E' (aS R') w' B a' (aY G')->Q .normal a' w')->wpList B.P ops Q l a w
 | [],G,R,E,w,a,vc,G',R',h,hv,hM,hf,hq=>by
  simp only[yK,ah,au] at h
  obtain⟨_,rfl,rfl⟩:=h
  exact hq E a w rfl hM hf
 | o::rest,G,R,E,w,a,vc,G',R',h,hv,hM,hf,hq=>by
  simp only[yK] at h
  split at h<;>try(cases h;done)
  rename_i vc1 k l1 h1
  split at h<;>try(cases h;done)
  rename_i vc2 G2 R2 h2
  simp only[ah,au] at h
  obtain⟨rfl,rfl,rfl⟩:=h
  obtain⟨hv1,hv2⟩:=dG.1 hv
  exact a2c hB h1 hv1 hM hf (fun v w' E' m1 m2 m3 m4=>by
   rw[<-oO] at m1 m2 m3 m4
   exact YI hB h2 hv2 m1 (by rw[wU];exact hf.put m2 (XW h1) m3 m4) (fun E2 a2 w2 hb2=>hq E2 a2 w2 (hb2.trans m2.fix)))
end
end
section
set_option linter.unusedSimpArgs false
set_option linter.unusedVariables false
set_option maxRecDepth 20000
theorem a7W {P:Program} {md:Region.Mode} {ops:Array Oper} {Q:Exit->Act->World->Prop} (I:Array Bool->Act->World->Prop) (hd:sQ md ops=true)
  (hend:∀ L a w,I L a w->(∀ i,i<ops.size->L.getD i true=true)->Q .normal a w)
  (hstep:∀ L a w i o,I L a w->ops[i]?=some o->L.getD i true=false->(∀ e ∈ o.after,Region.binds md e=true->L.getD e.on false=true)->wpOp P ops Q i (I (L.setIfInBounds i true)) a w) :
  ∀ fuel L a w,GH L<=fuel->I L a w->wpAny P md ops Q fuel L a w:=by
 intro fuel
 induction fuel with
 | zero =>
  intro L a w hu hI
  have hn:Region.ready md ops L=[]:=by
   cases hr:Region.ready md ops L with
   | nil=>rfl
   | cons i r =>
    exfalso
    obtain⟨o,_,h2,_⟩:=DK (by rw[hr];exact jd)
    have:=yP h2
    omega
  exact⟨hn,hend L a w hI (oG hd hn)⟩
 | succ fuel ih =>
  intro L a w hu hI
  refine⟨fun hn=>hend L a w hI (oG hd hn),fun i hi=>?_⟩
  obtain⟨o,h1,h2,h3⟩:=DK hi
  refine wpOp_mono (fun a' w' h'=>ih _ _ _ ?_ h') (hstep L a w i o hI h1 h2 h3)
  have:=yP h2
  omega
def AO:K0->List Nat
 | .val _ _=>[]
 | .own r _=>[r]
 | .ptr r _=>[r]
 | .lY r=>[r]
def K.res:K->List Nat
 | .ptr r _=>[r]
 | .own r _=>[r]
 | .when _ k=>k.res
 | .cell r _ _=>[r]
 | .mrow r _ _=>[r]
 | .mpos r _ _ _=>[r]
 | .lY r=>[r]
 | .mix ks=>ks.flatMap AO
 | .fn _ ks=>ks.flatMap AO
 | .sng r _=>[r]
 | .pls ks=>ks.flatMap AO
 | .pcl ks _=>ks.flatMap AO
 | _=>[]
def c1o:Res->List Nat
 | .kJ k=>k.res
 | _=>[]
def qB (ρ:Nat->Res) (k:K):List Nat:=k.res++k.res.flatMap fun r=>c1o (ρ r)
section
variable {P:Program} {C:FuncId->List At->List Ctr} {T:Told} {ρ ρ':Nat->Res}
theorem vI {α:Type} {f g:Nat->α} {r:Nat} (h:f r=g r):∀ (l:List (Nat × α)),iL f l r=iL g l r
 | []=>h
 | (q,x)::l=>by
  simp only[iL]
  refine vI ?_ l
  unfold bG;split
  ·rfl
  ·exact h
theorem jR {α:Type} {r:Nat}:∀ (l:List (Nat × α)) (f:Nat->α),r ∉ l.map (·.1)->iL f l r=f r
 | [],_,_=>rfl
 | (q,x)::l,f,h=>by
  simp only[yh,jw,not_or] at h
  simp only[iL]
  rw[jR l _ h.2,aP _ _ h.1]
theorem MW {k:K} (h:∀ r ∈ k.res,ρ r=ρ' r):rX ρ k=rX ρ' k:=by
 cases k<;>try rfl
 ·rename_i r v
  simp only[rX,h r (by simp[K.res])]
 ·rename_i r v i
  simp only[rX,h r (by simp[K.res])]
theorem qG {k:K} {t:Option Ty} (h:∀ r ∈ k.res,ρ r=ρ' r):wE ρ t k=wE ρ' t k:=by
 cases k<;>first|rfl|exact MW h
theorem a4h {k:K} {t:Option Ty} (h:∀ r ∈ k.res,ρ r=ρ' r):a4g ρ t k=a4g ρ' t k:=by
 have:WA ρ k=WA ρ' k:=by
  cases k<;>try rfl
  ·rename_i t x;cases t<;>rfl
  ·rename_i r v
   simp only[WA,h r (by simp[K.res])]
  ·rename_i r v i
   simp only[WA,h r (by simp[K.res])]
 unfold a4g
 rw[this,qG h]
theorem MV {t:Option Ty}:∀ {ks:List K} {ρ ρ':Nat->Res},(∀ k ∈ ks,∀ r ∈ k.res,ρ r=ρ' r)->EM ρ t ks=EM ρ' t ks
 | [],_,_,_=>rfl
 | k::ks,ρ,ρ',h=>by
  simp only[EM,qG (h k (jd ..))]
  split
  ·rename_i p l _
   rw[MV (ρ:=after ρ l) (ρ':=after ρ' l) (fun k' hk' r hr=>by rw[qV,qV];exact vI (h k' (iy _ hk') r hr) l)]
  ·rfl
theorem zG:∀ {ts:List Ty} {ks:List K} {ρ ρ':Nat->Res},(∀ k ∈ ks,∀ r ∈ k.res,ρ r=ρ' r)->zF ρ ts ks=zF ρ' ts ks
 | [],[],_,_,_=>rfl
 | [],_::_,_,_,_=>rfl
 | _::_,[],_,_,_=>rfl
 | t::ts,k::ks,ρ,ρ',h=>by
  simp only[zF,qG (h k (jd ..))]
  split
  ·rename_i p l _
   rw[zG (ρ:=after ρ l) (ρ':=after ρ' l) (fun k' hk' r hr=>by rw[qV,qV];exact vI (h k' (iy _ hk') r hr) l)]
  ·rfl
theorem a0Y {k:Operand->K} {d:Option Nat} {op:Op} (hk:∀ x,∀ r ∈ (k x).res,ρ r=ρ' r) (hd:∀ r,d=some r->ρ r=ρ' r):qX P T ρ k d op=qX P T ρ' k d op:=by
 cases op<;>try rfl
 case alloc t =>
  simp only[qX]
  split
  ·rw[hd _ (by first|assumption|rfl)]
  ·rfl
 case box t x =>
  simp only[qX,qG (hk x)]
  split
  ·rw[hd _ (by first|assumption|rfl)]
  ·rfl
 case load t x =>
  simp only[qX]
  split
  ·rename_i r o hx;rw[hk x r (by rw[hx];simp[K.res])]
  ·rfl
 case store t x y =>
  simp only[qX,qG (hk y)]
  split
  ·rename_i r o _ _ hx _;rw[hk x r (by rw[hx];simp[K.res])]
  ·rfl
 case fieldAddr s x i =>
  simp only[qX]
  split
  ·rename_i r o hx;rw[hk x r (by rw[hx];simp[K.res])]
  ·rfl
 case indexAddr s x i =>
  simp only[qX]
  split
  ·rename_i r o _ _ hx _;rw[hk x r (by rw[hx];simp[K.res])]
  ·rfl
theorem a2q {k:Operand->K} {d:Option Nat} {op:Op} (hk:∀ x,∀ r ∈ (k x).res,ρ r=ρ' r) (hd:∀ r,d=some r->ρ r=ρ' r):BK P T ρ k d op=BK P T ρ' k d op:=by
 cases op<;>try rfl
 case buildSlice t len parts =>
  simp only[BK]
  have h1:EM ρ (a1l P T t) (parts.toList.map fun q=>k q.2)=EM ρ' (a1l P T t) (parts.toList.map fun q=>k q.2):=MV (fun k' hk' r hr=>by
   obtain⟨q,_,rfl⟩:=ni.1 hk'
   exact hk q.2 r hr)
  rw[h1]
  split
  ·split
   ·split
    ·split
     ·rw[hd _ (by first|assumption|rfl)]
     ·rfl
    ·rfl
   ·rfl
   ·rfl
  ·rfl
 case call c =>
  obtain⟨cl,xs,ts⟩:=c
  cases cl<;>try rfl
  rename_i bi
  cases bi<;>try rfl
  simp only[BK]
  split
  ·rename_i s x t t' _ _
   split
   ·simp only[a4h (hk x)]
    split
    ·rename_i r v hs;rw[hk s r (by rw[hs];simp[K.res])]
    ·split
     ·rw[hd _ (by first|assumption|rfl)]
     ·rfl
    ·rfl
   ·rfl
  ·rfl
theorem BI {k:K} {r:Nat} (h:r ∈ k.res):r ∈ qB ρ k:=zh _ h
theorem b1i {k k':K} {r q:Nat} (h:r ∈ k.res) (hr:ρ r=.kJ k') (hq:q ∈ k'.res):q ∈ qB ρ k:=Bg _ (yw.2 ⟨r,h,by rw[hr];exact hq⟩)
theorem BX {k:K} {t:Option Ty} (h:∀ r ∈ k.res,ρ r=ρ' r):vF ρ t k=vF ρ' t k:=by
 cases k<;>try rfl
 ·rename_i r v
  simp only[vF,h r (by simp[K.res])]
 ·rename_i r v i
  simp only[vF,h r (by simp[K.res])]
theorem NY {k:K} {t:Option Ty} (h:∀ r ∈ qB ρ k,ρ r=ρ' r):FB ρ t k=FB ρ' t k:=by
 have h0:∀ r ∈ k.res,ρ r=ρ' r:=fun r hr=>h r (BI hr)
 cases k
 case ptr r o=>simp only[FB,h0 r (by simp[K.res])]
 case lY r =>
  simp only[FB,<-h0 r (by simp[K.res])]
  split
  ·rename_i k9 hr
   split
   ·rw[BX (ρ:=ρ) (ρ':=ρ') (fun q hq=>h q (b1i (k:=.lY r) (by simp[K.res]) hr hq))]
   ·rfl
  ·rfl
 all_goals exact BX (t:=t) h0
theorem b7D (k:K0):(k0K k).res=AO k:=by cases k<;>rfl
theorem BU:∀ {u:Ty} {ks:List K0},(∀ k ∈ ks,∀ r ∈ qB ρ (k0K k),ρ r=ρ' r)->gU ρ u ks=gU ρ' u ks
 | .unit,[],_=>rfl
 | .pair a b,k::ks,h=>by
  simp only[gU]
  rw[NY (h k (jd ..)),BU (fun k' hk'=>h k' (iy _ hk'))]
 | .unit,_::_,_=>rfl
 | .pair _ _,[],_=>rfl
 | .bool,_,_=>rfl
 | .int _,_,_=>rfl
 | .lf _,_,_=>rfl
 | .list _,_,_=>rfl
 | .arr _ _,_,_=>rfl
 | .ref _,_,_=>rfl
 | .clo _ _,_,_=>rfl
 | .nls _,_,_=>rfl
theorem a5P {g:FuncId} {ks:List K0} {k:K0} {r:Nat} (hk:k ∈ ks) (h:r ∈ qB ρ (k0K k)):r ∈ qB ρ (.fn g ks):=by
 have h1:∀ q ∈ (k0K k).res,q ∈ (K.fn g ks).res:=fun q hq=>yw.2 ⟨k,hk,by rw[<-b7D];exact hq⟩
 rcases tu.1 h with h|h
 ·exact BI (h1 r h)
 ·obtain⟨q,hq,h⟩:=yw.1 h
  exact Bg _ (yw.2 ⟨q,h1 q hq,h⟩)
theorem a2E {k:K} {t:Ty} (h:∀ r ∈ qB ρ k,ρ r=ρ' r):VI ρ t k=VI ρ' t k:=by
 cases k
 case fn g ks =>
  simp only[VI]
  split
  ·rw[BU (fun k hk r hr=>h r (a5P hk hr))]
  ·rfl
 all_goals exact NY (t:=some t) h
theorem vC:∀ {ts:List Ty} {ks:List K},(∀ k ∈ ks,∀ r ∈ qB ρ k,ρ r=ρ' r)->nH ρ ts ks=nH ρ' ts ks
 | [],[],_=>rfl
 | [],_::_,_=>rfl
 | _::_,[],_=>rfl
 | t::ts,k::ks,h=>by
  simp only[nH]
  rw[a2E (h k (jd ..)),vC (fun k' hk'=>h k' (iy _ hk'))]
theorem zH {ks:List K} (h:∀ k ∈ ks,∀ r ∈ qB ρ k,ρ r=ρ' r):∀ cs:List Ctr,EO ρ ks cs=EO ρ' ks cs
 | []=>rfl
 | c::cs=>by
  have e:a0U ρ c ks=a0U ρ' c ks:=by
   unfold a0U
   rw[vC h,zG (fun k hk r hr=>h k hk r (BI hr))]
  simp only[EO]
  rw[e,zH h cs]
theorem ZP {k:Operand->K} {op:Op} (hk:∀ x,∀ r ∈ qB ρ (k x),ρ r=ρ' r):wF P C ρ k op=wF P C ρ' k op:=by
 cases op<;>try rfl
 case makeFunc fn first caps=>cases fn<;>rfl
 case call c =>
  obtain⟨cl,xs,ts⟩:=c
  cases cl<;>try rfl
  rename_i f
  simp only[wF]
  have hcap:∀ (t:Ty) (x:t.den) (k':K),k' ∈ VL t x->k'.res=[]:=by
   intro t
   induction t with
   | pair a b _ ih =>
    intro x k' h
    rcases jw.1 h with rfl|h
    ·rfl
    ·exact ih x.2 k' h
   | _=>intro x k' h;cases h
  split
  ·rename_i g t cx hf
   rw[zH (fun k' hk' r hr=>by
    rcases tu.1 hk' with h|h
    ·obtain⟨q,_,rfl⟩:=ni.1 h;exact hk q r hr
    ·exfalso
     unfold qB at hr
     rw[hcap t cx k' h] at hr
     simp at hr)]
  ·rename_i g l hf
   rw[zH (fun k' hk' r hr=>by
    rcases tu.1 hk' with h|h
    ·obtain⟨q,_,rfl⟩:=ni.1 h;exact hk q r hr
    ·obtain⟨q,hq,rfl⟩:=ni.1 h
     exact hk f r (by rw[hf];exact a5P hq hr))]
  ·rfl
theorem a3I {k:Operand->K} {op:Op} (hk:∀ x,∀ r ∈ (k x).res,ρ r=ρ' r):JY P ρ k op=JY P ρ' k op:=by
 cases op<;>try rfl
 case indexAddr s x i =>
  simp only[JY]
  split
  ·rename_i r v _ _ hx _;rw[hk x r (by rw[hx];simp[K.res])]
  ·rename_i r v _ _ _ hx _;rw[hk x r (by rw[hx];simp[K.res])]
  ·rfl
  ·rfl
 case load t x =>
  simp only[JY]
  split
  ·rfl
  ·rename_i r v _ hx;rw[hk x r (by rw[hx];simp[K.res])]
  ·rename_i r v _ _ hx;rw[hk x r (by rw[hx];simp[K.res])]
  ·rename_i r hx;rw[hk x r (by rw[hx];simp[K.res])]
  ·rfl
 case call c =>
  obtain⟨cl,xs,ts⟩:=c
  cases cl<;>try rfl
  rename_i bi
  cases bi<;>try rfl
  simp only[JY]
  split
  ·rename_i x t _ _
   split
   ·split
    ·rename_i r v hx;rw[hk x r (by rw[hx];simp[K.res])]
    ·rename_i r v _ hx;rw[hk x r (by rw[hx];simp[K.res])]
    ·rfl
    ·rfl
   ·rfl
  ·rfl
theorem a4q {k:Operand->K} {d:Option Nat} {op:Op} (hk:∀ x,∀ r ∈ (k x).res,ρ r=ρ' r) (hd:∀ r,d=some r->ρ r=ρ' r):a0K P T ρ k d op=a0K P T ρ' k d op:=by
 cases op<;>try rfl
 case store t x y =>
  have hown:ownB ρ (k y)=ownB ρ' (k y):=by
   cases hy:k y<;>try rfl
   rename_i r v
   simp only[ownB]
   rw[hk y r (by rw[hy];simp[K.res])]
  simp only[a0K,qG (hk y),hown]
  split
  ·rename_i r v i hx
   rw[hk x r (by rw[hx];simp[K.res])]
   split
   ·rfl
   ·split
    ·rfl
    ·rename_i r2 v2 hy
     rw[hk y r2 (by rw[hy];simp[K.res])]
    ·rfl
   ·rfl
  ·rename_i r v id i hx;rw[hk x r (by rw[hx];simp[K.res])]
  ·rename_i r hx;rw[hk x r (by rw[hx];simp[K.res])]
  ·rfl
 case makeSlice t n m =>
  simp only[a0K]
  split
  ·rw[hd _ (by first|assumption|rfl)]
  ·rfl
theorem a3u {k:Operand->K} {d:Option Nat} {op:Op} (hk:∀ x,∀ r ∈ (k x).res,ρ r=ρ' r) (hd:∀ r,d=some r->ρ r=ρ' r):TL P T ρ k d op=TL P T ρ' k d op:=by
 cases op<;>try rfl
 case buildSlice t len parts =>
  simp only[TL]
  split<;>try rfl
  split<;>try rfl
  rename_i r
  split<;>try rfl
  split<;>try rfl
  split<;>try rfl
  split
  ·rw[hd _ (by first|assumption|rfl)]
  ·rename_i y _ _
   split
   ·rename_i r2 v2 hy;rw[hk y r2 (by rw[hy];simp[K.res])]
   ·rfl
  ·rfl
 case call c =>
  obtain⟨cl,xs,ts⟩:=c
  cases cl<;>try rfl
  rename_i bi
  cases bi<;>try rfl
  simp only[TL]
  split
  ·rename_i s x t t' _ _
   split
   ·split
    ·rename_i r2 v2 hx
     rw[hk x r2 (by rw[hx];simp[K.res])]
     split
     ·split
      ·rename_i r v hs;rw[hk s r (by rw[hs];simp[K.res])]
      ·rw[hd _ (by first|assumption|rfl)]
      ·rfl
     ·rfl
    ·rfl
   ·rfl
  ·rfl
theorem NW {r:Nat} {row:Option Nat}:∀ {ts:List Ty} {ks:List K},(∀ k ∈ ks,∀ q ∈ k.res,ρ q=ρ' q)->KL ρ r row ts ks=KL ρ' r row ts ks
 | [],[],_=>rfl
 | [],_::_,_=>rfl
 | _::_,[],_=>rfl
 | t::ts,k::ks,h=>by
  simp only[KL]
  rw[BX (h k (jd ..)),NW (fun k' hk'=>h k' (iy _ hk'))]
theorem a1T {k:LK} {k0:K} (h:∀ q ∈ k0.res,ρ q=ρ' q):a5o ρ k k0=a5o ρ' k k0:=by
 cases k with
 | row e t =>
  cases k0<;>try rfl
  case own r v=>exact ql (PL e t r v) (h r (by simp[K.res]))
  case mrow r v i=>exact ql (PI e t r v i) (h r (by simp[K.res]))
 | mat e e2 t =>
  cases k0<;>try rfl
  case own r v=>exact ql (PG e e2 t r v) (h r (by simp[K.res]))
theorem GN {d:Option Nat} {ks:List K} (h:∀ k ∈ ks,∀ r ∈ qB ρ k,ρ r=ρ' r) (hd:∀ r,d=some r->ρ r=ρ' r):∀ cs:List lM,zI ρ d ks cs=zI ρ' d ks cs
 | []=>rfl
 | c::cs=>by
  have e:FH ρ d ks c=FH ρ' d ks c:=by
   cases c with
   | mk k args pre made =>
    simp only[FH]
    split
    ·rw[hd _ (by first|assumption|rfl),vC h]
    ·rfl
   | chg k args res pre out fn =>
    cases ks with
    | nil=>rfl
    | cons k0 ks =>
     have h0:∀ k ∈ k0::ks,∀ r ∈ k.res,ρ r=ρ' r:=fun k hk r hr=>h k hk r (BI hr)
     simp only[FH]
     rw[a1T (h0 k0 (jd ..)),zG (fun k hk=>h0 k (iy _ hk))]
     simp only[NW (ρ:=ρ) (ρ':=ρ') (ks:=ks) (fun k hk=>h0 k (iy _ hk))]
  simp only[zI]
  rw[e,GN h hd cs]
theorem ZO {k:Operand->K} {d:Option Nat} {op:Op} (hk:∀ x,∀ r ∈ qB ρ (k x),ρ r=ρ' r) (hd:∀ r,d=some r->ρ r=ρ' r):zJ P T ρ k d op=zJ P T ρ' k d op:=by
 cases op<;>try rfl
 case call c =>
  obtain⟨cl,xs,ts⟩:=c
  cases cl<;>try rfl
  rename_i f
  simp only[zJ]
  have hcap:∀ (t:Ty) (x:t.den) (k':K),k' ∈ VL t x->k'.res=[]:=by
   intro t
   induction t with
   | pair a b _ ih =>
    intro x k' h
    rcases jw.1 h with rfl|h
    ·rfl
    ·exact ih x.2 k' h
   | _=>intro x k' h;cases h
  split
  ·split
   ·refine GN (fun k9 hk9 r hr=>?_) hd _
    rcases tu.1 hk9 with hk9|hk9
    ·obtain⟨q,_,rfl⟩:=ni.1 hk9;exact hk q r hr
    ·exfalso
     unfold qB at hr
     rw[hcap _ _ _ hk9] at hr
     simp at hr
   ·rfl
  ·rfl
theorem a1y {k:Operand->K} {op:Op} (hk:∀ x,∀ r ∈ (k x).res,ρ r=ρ' r):WW P ρ k op=WW P ρ' k op:=by
 unfold WW
 split
 ·rename_i t s lo hi mx
  have h:=MW (hk (.tmp s))
  split
  ·rename_i r v e
   rw[e] at h
   rw[h]
  ·rfl
 ·rfl
theorem ZR {k:Operand->K} {op:Op} (hk:∀ x,∀ r ∈ (k x).res,ρ r=ρ' r):wH P ρ k op=wH P ρ' k op:=by
 unfold wH
 split
 ·split
  ·split
   ·rename_i x y _ _ _ _ _ _ r v id ty1 ys hx hy
    rw[hk x r (by rw[hx];simp[K.res])]
   ·rfl
  ·rfl
 ·split
  ·split
   ·rename_i x y _ _ _ _ _ _ r v ty1 ys hx hy
    rw[hk x r (by rw[hx];simp[K.res])]
   ·rfl
  ·rfl
 ·rfl
theorem KF {k:Operand->K} {d:Option Nat} {op:Op} (hk:∀ x,∀ r ∈ qB ρ (k x),ρ r=ρ' r) (hd:∀ r,d=some r->ρ r=ρ' r):pW P C T ρ k d op=pW P C T ρ' k d op:=by
 have h0:∀ x,∀ r ∈ (k x).res,ρ r=ρ' r:=fun x r hr=>hk x r (BI hr)
 unfold pW
 rw[a0Y h0 hd,a2q h0 hd,a3I h0,a4q h0 hd,a3u h0 hd,a1y h0,ZO hk hd,ZR h0,ZP hk]
end
def XC (ops:Array Oper) (o:Oper):Option Nat:=match o.guard with
 | some (j,_)=>(ops[j]?).bind (·.dst)
 | none=>none
def readsOf (ops:Array Oper) (o:Oper):List Nat:=tmpsOf o.op++(XC ops o).toList
theorem b2o (ρ:Nat->Res) (k:K):qB ρ (unW k)=qB ρ k:=by cases k<;>rfl
theorem UG (ρ:Nat->Res) (v:Value):qB ρ (xP v)=[]:=by unfold xP;split<;>rfl
def moveB:Op->Bool
 | .move _=>true
 | _=>false
theorem NR {P:Program} {C:FuncId->List At->List Ctr} {T:Told} {ρ ρ':Nat->Res} {k:Operand->K} {d:Option Nat} {op:Op} (h:moveB op=true):pW P C T ρ k d op=pW P C T ρ' k d op:=by
 cases op<;>simp[moveB] at h
 rfl
def a2B (op:Op):List Nat:=if moveB op then [] else tmpsOf op
theorem a2b {B:Book} {G G':Nat->K} {ρ ρ':Nat->Res} {ops:Array Oper} {o:Oper} (hG:∀ s ∈ readsOf ops o,G s=G' s) (hρ:∀ s ∈ a2B o.op,∀ r ∈ qB ρ (G s),ρ r=ρ' r) (hd:∀ r,o.dst=some r->ρ r=ρ' r):xA B G ρ ops o=xA B G' ρ' ops o:=by
 have h1:jH (tmpsOf o.op) G=jH (tmpsOf o.op) G':=by
  funext s
  unfold jH
  split
  ·rename_i h;exact hG s (zh _ (by simpa using h))
  ·rfl
 have h2:jH (tmpsOf o.op) (unG o.op G)=jH (tmpsOf o.op) (unG o.op G'):=by
  funext s
  unfold jH
  split
  ·rename_i h;unfold unG;rw[hG s (zh _ (by simpa using h))]
  ·rfl
 have h3:(tmpsOf o.op).flatMap (fun s=>ND o.op s (G s))=(tmpsOf o.op).flatMap (fun s=>ND o.op s (G' s)):=by
  have:∀ l:List Nat,(∀ s ∈ l,G s=G' s)->l.flatMap (fun s=>ND o.op s (G s))=l.flatMap (fun s=>ND o.op s (G' s)):=by
   intro l
   induction l with
   | nil=>intro _;rfl
   | cons x l ih=>intro h;rw[List.flatMap_cons,List.flatMap_cons,h x (jd ..),ih (fun s hs=>h s (iy _ hs))]
  exact this _ (fun s hs=>hG s (zh _ hs))
 have k3:pW B.P B.C B.T ρ (opK (jH (tmpsOf o.op) G')) o.dst o.op=pW B.P B.C B.T ρ' (opK (jH (tmpsOf o.op) G')) o.dst o.op/\pW B.P B.C B.T ρ (opK (jH (tmpsOf o.op) (unG o.op G'))) o.dst o.op=pW B.P B.C B.T ρ' (opK (jH (tmpsOf o.op) (unG o.op G'))) o.dst o.op:=by
  by_cases hp:moveB o.op=true
  ·exact⟨NR hp,NR hp⟩
  unfold a2B at hρ
  rw[eu hp] at hρ
  have k1:∀ x,∀ r ∈ qB ρ (opK (jH (tmpsOf o.op) G') x),ρ r=ρ' r:=by
   rw[<-h1]
   intro x r hr
   cases x with
   | tmp s =>
    have hr:r ∈ qB ρ (jH (tmpsOf o.op) G s):=hr
    unfold jH at hr
    split at hr
    ·rename_i h;exact hρ s (by simpa using h) r hr
    ·cases hr
   | const v=>exfalso;have hr:r ∈ qB ρ (xP v):=hr;rw[UG] at hr;cases hr
   | func f=>cases hr
   | global g=>cases hr
  have k2:∀ x,∀ r ∈ qB ρ (opK (jH (tmpsOf o.op) (unG o.op G')) x),ρ r=ρ' r:=by
   rw[<-h2]
   intro x r hr
   cases x with
   | tmp s =>
    have hr:r ∈ qB ρ (jH (tmpsOf o.op) (unG o.op G) s):=hr
    unfold jH at hr
    split at hr
    ·rename_i h
     refine hρ s (by simpa using h) r ?_
     unfold unG at hr
     split at hr
     ·exact hr
     ·rw[<-b2o];exact hr
    ·cases hr
   | const v=>exfalso;have hr:r ∈ qB ρ (xP v):=hr;rw[UG] at hr;cases hr
   | func f=>cases hr
   | global g=>cases hr
  exact⟨KF k1 hd,KF k2 hd⟩
 have k4:a1B B ρ (opK (jH (tmpsOf o.op) (unG o.op G'))) o.dst o.op=a1B B ρ' (opK (jH (tmpsOf o.op) (unG o.op G'))) o.dst o.op:=by
  unfold a1B
  rw[k3.2]
 unfold xA
 rw[h1,h2,h3,k3.1,k4]
 cases hg:o.guard with
 | none=>rfl
 | some jb =>
  obtain⟨j,b⟩:=jb
  simp only
  cases hs:(ops[j]?).bind (·.dst) with
  | none=>rfl
  | some s =>
   have:G s=G' s:=hG s (Bg _ (by simp[XC,hg,hs]))
   simp only[this]
end
section
set_option linter.unusedSimpArgs false
set_option linter.unusedVariables false
set_option maxRecDepth 20000
def fF {α:Type} (done:Nat->Bool):Nat->List (List (Nat × α))->(Nat->α)->Nat->α
 | _,[],f=>f
 | j,u::us,f=>fF done (j+1) us (if done j then iL f u else f)
theorem zS {α:Type} {d d':Nat->Bool} {r:Nat}:∀ (us:List (List (Nat × α))) (b:Nat) (f g:Nat->α),f r=g r->(∀ j u,us[j]?=some u->r ∈ u.map (·.1)->d (b+j)=d' (b+j))->fF d b us f r=fF d' b us g r
 | [],b,f,g,h,_=>h
 | u::us,b,f,g,h,hd=>by
  simp only[fF]
  refine zS us (b+1) _ _ ?_ (fun j u' hu hr=>by have:=hd (j+1) u' hu hr;rwa [show b+(j+1)=b+1+j by omega] at this)
  by_cases hr:r ∈ u.map (·.1)
  ·have:=hd 0 u rfl hr
   rw[Nat.add_zero] at this
   rw[<-this]
   split
   ·exact vI h u
   ·exact h
  ·split<;>split<;>first
    | (rw[jR u _ hr,jR u _ hr];exact h)
    | (rw[jR u _ hr];exact h)
    |exact h
theorem CW {α:Type} {d:Nat->Bool} {r:Nat}:∀ (us:List (List (Nat × α))) (b:Nat) (f:Nat->α),(∀ j u,us[j]?=some u->r ∈ u.map (·.1)->d (b+j)=false)->fF d b us f r=f r
 | [],b,f,_=>rfl
 | u::us,b,f,hd=>by
  simp only[fF]
  rw[CW us (b+1) _ (fun j u' hu hr=>by have:=hd (j+1) u' hu hr;rwa [show b+(j+1)=b+1+j by omega] at this)]
  by_cases hr:r ∈ u.map (·.1)
  ·have:=hd 0 u rfl hr
   rw[Nat.add_zero] at this
   rw[this];rfl
  ·split
   ·exact jR u _ hr
   ·rfl
theorem WC {α:Type} {r:Nat}:∀ (l:List (Nat × α)) (f g:Nat->α),r ∈ l.map (·.1)->iL f l r=iL g l r
 | [],_,_,h=>by cases h
 | (q,x)::l,f,g,h=>by
  simp only[iL]
  by_cases hr:r ∈ l.map (·.1)
  ·exact WC l _ _ hr
  ·rw[jR l _ hr,jR l _ hr]
   have:r=q:=by
    rcases jw.1 h with h|h
    ·exact h
    ·exact absurd h hr
   subst this
   rw[aF,aF]
theorem FN {α:Type} {d d':Nat->Bool} {u:List (Nat × α)}:∀ (us:List (List (Nat × α))) (b i:Nat) (f:Nat->α),us[i]?=some u->d (b+i)=false->d' (b+i)=true->(∀ j,j≠b+i->d' j=d j)->(∀ r ∈ u.map (·.1),∀ j v,us[j]?=some v->i<j->r ∈ v.map (·.1)->d (b+j)=false)->fF d' b us f=iL (fF d b us f) u
 | v::us,b,0,f,hi,hd,hd',he,hn=>by
  simp only[List.getElem?_cons_zero,ah] at hi
  subst hi
  simp only[Nat.add_zero] at hd hd' he
  simp only[fF,hd,hd',Dq,xg,if_false]
  funext r
  have h1:fF d' (b+1) us (iL f v) r=fF d (b+1) us (iL f v) r:=zS us (b+1) _ _ rfl (fun j u' hu hr=>he _ (by omega))
  rw[h1]
  by_cases hr:r ∈ v.map (·.1)
  ·rw[CW us (b+1) _ (fun j u' hu hr'=>by have:=hn r hr (j+1) u' hu (by omega) hr';rwa [show b+(j+1)=b+1+j by omega] at this)]
   exact WC v _ _ hr
  ·rw[jR v _ hr]
   exact zS us (b+1) _ _ (jR v _ hr) (fun j u' hu hr=>rfl)
 | v::us,b,i+1,f,hi,hd,hd',he,hn=>by
  simp only[fF]
  have:(if d' b=true then iL f v else f)=(if d b=true then iL f v else f):=by rw[he b (by omega)]
  rw[this]
  exact FN us (b+1) i _ hi (by rwa [show b+1+i=b+(i+1) by omega]) (by rwa [show b+1+i=b+(i+1) by omega]) (fun j hj=>he j (by omega)) (fun r hr j v' hv hlt hr'=>by
   have:=hn r hr (j+1) v' hv (by omega) hr'
   rwa [show b+(j+1)=b+1+j by omega] at this)
 | [],b,i,f,hi,hd,hd',he,hn=>by simp at hi
theorem LJ {α:Type} {d:Nat->Bool}:∀ (us:List (List (Nat × α))) (b:Nat) (f:Nat->α),(∀ j,j<us.length->d (b+j)=true)->fF d b us f=us.foldl iL f
 | [],b,f,h=>rfl
 | u::us,b,f,h=>by
  have h0:=h 0 (by simp)
  rw[Nat.add_zero] at h0
  simp only[fF,h0,Dq,List.foldl_cons]
  exact LJ us (b+1) _ (fun j hj=>by have:=h (j+1) (by simpa using hj);rwa [show b+(j+1)=b+1+j by omega] at this)
structure Sim where
 k:K
 l:List (Nat × Res)
 touch:List Nat
def yM (B:Book) (ops:Array Oper):List Oper->Gam->Rho->Option (List Cd × List Sim × Gam × Rho)
 | [],G,R=>some ([],[],G,R)
 | o::rest,G,R=>match xA B (aY G) (aS R) ops o with
  | some (vc,k,l)=>match yM B ops rest (b4K o.dst k G) (aft R l) with
   | some (vc',ss,G',R')=>some (vc++vc',⟨k,l,(a2B o.op).flatMap (fun s=>qB (aS R) (aY G s))++o.dst.toList++l.map (·.1)⟩::ss,G',R')
   | none=>none
  | none=>none
def isDst (o:Oper) (l:List Nat):Bool:=match o.dst with
 | some s=>l.contains s
 | none=>false
def a0A (o o':Oper):Bool:=match o.dst,o'.dst with
 | some s,some s'=>s==s'
 | _,_=>false
def clash (ops:Array Oper) (o o':Oper) (s s':Sim):Bool:=isDst o (readsOf ops o') || isDst o' (readsOf ops o) || s.l.any (fun q=>s'.touch.contains q.1) || s'.l.any (fun q=>s.touch.contains q.1)
def a3z (ops:Array Oper) (b:Array Nat) (ss:List Sim):Bool:=(List.range ops.size).all fun j=>match ops[j]?,ss[j]? with
 | some o',some s'=>(List.range j).all fun i=>match ops[i]?,ss[i]? with
  | some o,some s=>!a0A o o'&&(!clash ops o o' s s' || (b.getD j 0).testBit i)
  | _,_=>false
 | _,_=>false
def b0E (ops:Array Oper) (b:Array Nat):Bool:=(List.range ops.size).all fun j=>match ops[j]? with
 | some o=>(List.range j).all fun i=>!(b.getD j 0).testBit i || o.after.any fun e=>Region.binds .any e&&(e.on==i || (decide (e.on<j)&&decide (i<e.on)&&(b.getD e.on 0).testBit i))
 | none=>false
def OJ (ops:Array Oper) (L:Array Bool):Prop:=∀ j o,ops[j]?=some o->L.getD j false=true->∀ e ∈ o.after,Region.binds .any e=true->L.getD e.on false=true
theorem TP {ops:Array Oper} {b:Array Nat} (h:b0E ops b=true) {L:Array Bool} (hc:OJ ops L):∀ (j:Nat) (o:Oper) (i:Nat),ops[j]?=some o->i<j->(b.getD j 0).testBit i=true->(∀ e ∈ o.after,Region.binds .any e=true->L.getD e.on false=true)->L.getD i false=true:=by
 intro j
 induction j using Nat.strongRecOn with
 | _ j ih =>
  intro o i ho hij hb hd
  have hj:j<ops.size:=(zn.1 ho).1
  have h1:=(qg.1 h) j (oq.2 hj)
  rw[ho] at h1
  have h2:=(qg.1 h1) i (oq.2 hij)
  rw[hb] at h2
  simp only[Bool.not_true,Bool.false_or,Array.any_eq_true'] at h2
  obtain⟨e,he,h3⟩:=h2
  simp only[ay,Bool.or_eq_true,jl,gy] at h3
  obtain⟨h4,h5⟩:=h3
  have hdone:=hd e he h4
  rcases h5 with h5|⟨⟨h5,hie⟩,h6⟩
  ·rw[<-h5];exact hdone
  ·have ho':ops[e.on]?=some ops[e.on]:=zy (by omega)
   exact ih e.on h5 _ i ho' hie h6 (hc e.on _ ho' hdone)
theorem NK {α:Type} {d:Nat->Bool}:∀ (us:List (List (Nat × α))) (b:Nat) (f:Nat->α),fF d (b+1) us f=fF (fun j=>d (j+1)) b us f
 | [],b,f=>rfl
 | u::us,b,f=>by simp only[fF];exact NK us (b+1) _
def EJ (l:List Oper) (ss:List Sim):List (List (Nat × K)):=List.zipWith (fun o s=>a0G o.dst s.k) l ss
def AU (ss:List Sim):List (List (Nat × Res)):=ss.map (·.l)
theorem YJ {B:Book} {ops:Array Oper}:∀ {l:List Oper} {G:Gam} {R:Rho} {vc:List Cd} {ss:List Sim} {G':Gam} {R':Rho},yM B ops l G R=some (vc,ss,G',R') ->
  ss.length=l.length/\aY G'=(EJ l ss).foldl iL (aY G)/\aS R'=(AU ss).foldl iL (aS R) /\
  ∀ i o,l[i]?=some o->∃ s vi,ss[i]?=some s/\(dH vc->dH vi)/\xA B (fF (fun j=>decide (j<i)) 0 (EJ l ss) (aY G)) (fF (fun j=>decide (j<i)) 0 (AU ss) (aS R)) ops o=some (vi,s.k,s.l) /\
   s.touch=(a2B o.op).flatMap (fun q=>qB (fF (fun j=>decide (j<i)) 0 (AU ss) (aS R)) (fF (fun j=>decide (j<i)) 0 (EJ l ss) (aY G) q))++o.dst.toList++s.l.map (·.1)
 | [],G,R,vc,ss,G',R',h=>by
  simp only[yM,ah,au] at h
  obtain⟨_,rfl,rfl,rfl⟩:=h
  exact⟨rfl,rfl,rfl,fun i o hi=>by simp at hi⟩
 | o::rest,G,R,vc,ss,G',R',h=>by
  simp only[yM] at h
  split at h<;>try(cases h;done)
  rename_i vc1 k l1 h1
  split at h<;>try(cases h;done)
  rename_i vc2 ss2 G2 R2 h2
  simp only[ah,au] at h
  obtain⟨rfl,rfl,rfl,rfl⟩:=h
  obtain⟨k1,k2,k3,k4⟩:=YJ h2
  rw[wU] at k2 k4
  rw[oO,qV] at k3 k4
  refine⟨by simp[k1],k2,k3,fun i o' hi=>?_⟩
  cases i with
  | zero =>
   simp only[List.getElem?_cons_zero,ah] at hi
   subst hi
   have e1:∀ {α:Type} (us:List (List (Nat × α))) (f:Nat->α),fF (fun j=>decide (j<0)) 0 us f=f:=fun us f=>by
    funext r
    exact CW us 0 f (fun j u _ _=>by simp)
   exact⟨_,vc1,rfl,fun hv=>(dG.1 hv).1,by rw[e1,e1];exact h1,by rw[e1,e1]⟩
  | succ i =>
   obtain⟨s,vi,j1,j2,j3,j4⟩:=k4 i o' (by simpa using hi)
   have e1:∀ {α:Type} (u:List (Nat × α)) (us:List (List (Nat × α))) (f:Nat->α),fF (fun j=>decide (j<i+1)) 0 (u::us) f=fF (fun j=>decide (j<i)) 0 us (iL f u):=fun u us f=>by
    simp only[fF]
    rw[iw (by simp),NK]
    congr 1
    funext j
    simp
   refine⟨s,vi,by simpa using j1,fun hv=>j2 (dG.1 hv).2,?_,?_⟩
   ·show xA B (fF _ 0 (a0G o.dst k::EJ rest ss2) (aY G)) (fF _ 0 (l1::AU ss2) (aS R)) ops o'=_
    rw[e1,e1];exact j3
   ·show s.touch=(a2B o'.op).flatMap (fun q=>qB (fF _ 0 (l1::AU ss2) (aS R)) (fF _ 0 (a0G o.dst k::EJ rest ss2) (aY G) q))++_++_
    rw[e1,e1];exact j4
theorem a5l {l:List Oper} {ss:List Sim} {j:Nat} {u:List (Nat × K)} (h:(EJ l ss)[j]?=some u):∃ o s,l[j]?=some o/\ss[j]?=some s/\u=a0G o.dst s.k:=by
 unfold EJ at h
 rw[List.getElem?_zipWith] at h
 cases h1:l[j]? with
 | none=>rw[h1] at h;cases h
 | some o =>
  cases h2:ss[j]? with
  | none=>rw[h1,h2] at h;cases h
  | some s=>rw[h1,h2] at h;simp at h;exact⟨o,s,rfl,rfl,h.symm⟩
theorem a5r {ss:List Sim} {j:Nat} {u:List (Nat × Res)} (h:(AU ss)[j]?=some u):∃ s,ss[j]?=some s/\u=s.l:=by
 unfold AU at h
 rw[qj] at h
 cases h2:ss[j]? with
 | none=>rw[h2] at h;cases h
 | some s=>rw[h2] at h;simp at h;exact⟨s,rfl,h.symm⟩
theorem VD {d:Option Nat} {k:K} {r:Nat} (h:r ∈ (a0G d k).map (·.1)):d=some r:=by
 cases d with
 | none=>cases h
 | some s=>simp[a0G] at h;rw[h]
theorem a1M {o:Oper} {l:List Nat} {s:Nat} (h:o.dst=some s) (hs:s ∈ l):isDst o l=true:=by simp[isDst,h,hs]
theorem ZJ {l:List (Nat × Res)} {t:List Nat} {r:Nat} (h:r ∈ l.map (·.1)) (ht:r ∈ t):l.any (fun q=>t.contains q.1)=true:=by
 obtain⟨q,hq,rfl⟩:=ni.1 h
 exact Bl.2 ⟨q,hq,by simpa using ht⟩
theorem BA {ops:Array Oper} {b:Array Nat} {ss:List Sim} (h:a3z ops b ss=true) {i j:Nat} {o o':Oper} {s s':Sim} (hij:i<j) (hi:ops[i]?=some o) (hj:ops[j]?=some o') (hs:ss[i]?=some s) (hs':ss[j]?=some s'):a0A o o'=false/\(clash ops o o' s s'=true->(b.getD j 0).testBit i=true):=by
 have hjl:j<ops.size:=(zn.1 hj).1
 have h1:=(qg.1 h) j (oq.2 hjl)
 rw[hj,hs'] at h1
 have h2:=(qg.1 h1) i (oq.2 hij)
 rw[hi,hs] at h2
 simp only[ay,yc,Bool.or_eq_true] at h2
 refine⟨h2.1,fun hc=>?_⟩
 rcases h2.2 with h3|h3
 ·rw[hc] at h3;cases h3
 ·exact h3
theorem a4F {ops:Array Oper} {o o':Oper} {s s':Sim} (h:s.l.any (fun q=>s'.touch.contains q.1)=true):clash ops o o' s s'=true:=by unfold clash;rw[h];simp
theorem b2J {ops:Array Oper} {o o':Oper} {s s':Sim} (h:s'.l.any (fun q=>s.touch.contains q.1)=true):clash ops o o' s s'=true:=by unfold clash;rw[h];simp
section
variable {B:Book} {W:World}
theorem a6x (hB:B.Ok) (hm:B.P.follows .mixedOrders=true) {id:Nat} {ops:Array Oper} {b:Array Nat} {Q:Exit->Act->World->Prop} {G:Gam} {R:Rho} {E:Env} {w:World} {a:Act} {vc:List Cd} {ss:List Sim} {G':Gam} {R':Rho}
  (h:yM B ops ops.toList G R=some (vc,ss,G',R')) (hd:sQ .any ops=true) (ho:a3z ops b ss=true) (hn:b0E ops b=true) (hv:dH vc) (hM:Mem E (aS R) W w) (hf:Fits E (aS R) w B a (aY G))
  (hq:∀ E' a' w',E'.fix=E.fix->Mem E' (aS R') W w'->Fits E' (aS R') w' B a' (aY G')->Q .normal a' w'):(Code.region id ops true).wp B.P Q a w:=by
 obtain⟨hlen,hG',hR',hat⟩:=YJ h
 have hlen':ss.length=ops.size:=by simpa using hlen
 refine wp_region_any hm ?_
 refine a7W (fun L a w=>L.size=ops.size/\OJ ops L/\∃ E',E'.fix=E.fix/\Mem E' (fF (fun j=>L.getD j false) 0 (AU ss) (aS R)) W w/\Fits E' (fF (fun j=>L.getD j false) 0 (AU ss) (aS R)) w B a (fF (fun j=>L.getD j false) 0 (EJ ops.toList ss) (aY G))) hd ?_ ?_ _ _ _ _ (by rw[VB];exact aj _) ?_
 ·rintro L a w ⟨hL,_,E9,m0,m1,m2⟩ hall
  have hdone:∀ j,j<ops.size->L.getD j false=true:=fun j hj=>xR hL hj (hall j hj)
  have e1:fF (fun j=>L.getD j false) 0 (AU ss) (aS R)=aS R':=by
   rw[hR']
   exact LJ _ 0 _ (fun j hj=>by rw[ny];exact hdone j (by simpa [AU,hlen'] using hj))
  have e2:fF (fun j=>L.getD j false) 0 (EJ ops.toList ss) (aY G)=aY G':=by
   rw[hG']
   exact LJ _ 0 _ (fun j hj=>by rw[ny];exact hdone j (by simp[EJ,hlen'] at hj;exact hj))
  rw[e1] at m1 m2
  rw[e2] at m2
  exact hq E9 a w m0 m1 m2
 ·rintro L a w i o ⟨hL,hC,E9,m0,m1,m2⟩ hio hl oQ
  obtain⟨s,vi,hs,hvi,hone,a9G⟩:=hat i o (by simpa using hio)
  have hi:i<ops.size:=(zn.1 hio).1
  have hif:L.getD i false=false:=ET hl
  have a5g:∀ j oj sj,j<i->ops[j]?=some oj->ss[j]?=some sj->clash ops oj o sj s=true->L.getD j false=true:=fun j oj sj hji hoj hsj hcl =>
   TP hn hC i o j hio hji ((BA ho hji hoj hio hsj hs).2 hcl) oQ
  have a0d:∀ j oj sj,i<j->ops[j]?=some oj->ss[j]?=some sj->clash ops o oj s sj=true->L.getD j false=false:=fun j oj sj hij hoj hsj hcl=>by
   cases hjd:L.getD j false with
   | false=>rfl
   | true =>
    have:=TP hn hC j oj i hoj hij ((BA ho hij hio hoj hs hsj).2 hcl) (hC j oj hoj hjd)
    rw[this] at hif;cases hif
  have b7x:∀ q ∈ readsOf ops o,fF (fun j=>decide (j<i)) 0 (EJ ops.toList ss) (aY G) q=fF (fun j=>L.getD j false) 0 (EJ ops.toList ss) (aY G) q:=fun q hq=>zS _ 0 _ _ rfl (fun j u hu hr=>by
   obtain⟨oj,sj,h1,h2,rfl⟩:=a5l hu
   have hdj:=VD hr
   have h1':ops[j]?=some oj:=by simpa using h1
   rw[ny]
   by_cases hji:j<i
   ·simp only[hji,decide_true]
    exact(a5g j oj sj hji h1' h2 (by simp[clash,a1M hdj hq])).symm
   ·simp only[hji,decide_false]
    by_cases e:j=i
    ·rw[e];exact hif.symm
    ·exact(a0d j oj sj (by omega) h1' h2 (by simp[clash,a1M hdj hq])).symm)
  have a9F:∀ r ∈ s.touch,fF (fun j=>decide (j<i)) 0 (AU ss) (aS R) r=fF (fun j=>L.getD j false) 0 (AU ss) (aS R) r:=fun r hr=>zS _ 0 _ _ rfl (fun j u hu hr'=>by
   obtain⟨sj,h2,rfl⟩:=a5r hu
   have hjl:j<ops.size:=by rw[<-hlen'];exact(jq.1 h2).1
   have h1':ops[j]?=some ops[j]:=zy hjl
   rw[ny]
   by_cases hji:j<i
   ·simp only[hji,decide_true]
    exact(a5g j _ sj hji h1' h2 (a4F (ZJ hr' hr))).symm
   ·simp only[hji,decide_false]
    by_cases e:j=i
    ·rw[e];exact hif.symm
    ·exact(a0d j _ sj (by omega) h1' h2 (b2J (ZJ hr' hr))).symm)
  have b6i:xA B (fF (fun j=>L.getD j false) 0 (EJ ops.toList ss) (aY G)) (fF (fun j=>L.getD j false) 0 (AU ss) (aS R)) ops o=some (vi,s.k,s.l):=by
   rw[<-hone]
   refine(a2b b7x (fun q hq r hr=>a9F r ?_) (fun r hr=>a9F r ?_)).symm
   ·rw[a9G];exact zh _ (zh _ (yw.2 ⟨q,hq,hr⟩))
   ·rw[a9G];exact zh _ (Bg _ (by rw[hr];simp))
  have a9D:fF (fun j=>(L.setIfInBounds i true).getD j false) 0 (AU ss) (aS R)=iL (fF (fun j=>L.getD j false) 0 (AU ss) (aS R)) s.l:=by
   refine FN _ 0 i _ (by unfold AU;rw[qj,hs];rfl) (by rw[ny];exact hif) (by rw[ny];exact wK hl) (fun j hj=>oN (by omega)) (fun r hr j v hv hij hr'=>?_)
   obtain⟨sj,h2,rfl⟩:=a5r hv
   have hjl:j<ops.size:=by rw[<-hlen'];exact(jq.1 h2).1
   have hjt:r ∈ sj.touch:=by
    obtain⟨sj',_,h3,_,_,h4⟩:=hat j ops[j] (by simp[hjl])
    rw[h2] at h3
    cases h3
    rw[h4];exact Bg _ hr'
   rw[ny]
   exact a0d j _ sj hij (zy hjl) h2 (a4F (ZJ hr hjt))
  have b7w:fF (fun j=>(L.setIfInBounds i true).getD j false) 0 (EJ ops.toList ss) (aY G)=iL (fF (fun j=>L.getD j false) 0 (EJ ops.toList ss) (aY G)) (a0G o.dst s.k):=by
   refine FN _ 0 i _ (by unfold EJ;rw[List.getElem?_zipWith,hs];simp[hio]) (by rw[ny];exact hif) (by rw[ny];exact wK hl) (fun j hj=>oN (by omega)) (fun r hr j v hv hij hr'=>?_)
   obtain⟨oj,sj,h1,h2,rfl⟩:=a5l hv
   have h1':ops[j]?=some oj:=by simpa using h1
   have hd1:=VD hr
   have hd2:=VD hr'
   have:=(BA ho hij hio h1' hs h2).1
   simp[a0A,hd1,hd2] at this
  have hCl:OJ ops (L.setIfInBounds i true):=by
   intro j oj hoj hj e he hb'
   have hset:∀ q,L.getD q false=true->(L.setIfInBounds i true).getD q false=true:=fun q hq=>by
    by_cases e1:i=q
    ·subst e1;rw[hif] at hq;cases hq
    ·rw[oN e1];exact hq
   by_cases e1:j=i
   ·subst e1
    rw[hio] at hoj
    cases hoj
    exact hset _ (oQ e he hb')
   ·rw[oN (fun e2=>e1 e2.symm)] at hj
    exact hset _ (hC j oj hoj hj e he hb')
  unfold wpOp
  rw[hio]
  refine a2c hB b6i (hvi hv) m1 m2 (fun v w' E' n1 n2 n3 n4=>⟨by simpa using hL,hCl,E',n2.fix.trans m0,?_,?_⟩)
  ·rw[a9D,<-qV];exact n1
  ·rw[a9D,b7w,<-qV];exact m2.put n2 (XW b6i) n3 n4
 ·have hnew:∀ j,(Array.replicate ops.size false).getD j false=false:=fun j=>IW _ j
  have e1:∀ {α:Type} (us:List (List (Nat × α))) (f:Nat->α),fF (fun j=>(Array.replicate ops.size false).getD j false) 0 us f=f:=fun us f=>by
   funext r
   exact CW us 0 f (fun j u _ _=>hnew _)
  rw[e1,e1]
  obtain⟨n1,n2⟩:=hM.grows (dh w.heap.size w).drew
  have hcl0:OJ ops (Array.replicate ops.size false):=fun j o hj hj2=>by rw[hnew] at hj2;cases hj2
  exact⟨by simp,hcl0,E,rfl,n1,hf.size,hf.defers,fun s=>n2.wf _ (hf.wf s),fun s=>n2.holds _ _ (hf.wf s) (hf.holds s),hf.par⟩
end
end
end Go.Proofs.YtbkocjmmbkifjaaGreat
