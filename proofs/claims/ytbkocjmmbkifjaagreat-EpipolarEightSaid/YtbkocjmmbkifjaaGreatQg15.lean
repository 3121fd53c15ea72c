/-
  Lemmas for the theorem veight28_holds, part 15 of 32.
-/
import Derived.Tactics
import Derived.Test.YtbkocjmmbkifjaaGreatQg14
namespace Go.Proofs.YtbkocjmmbkifjaaGreat
open Go Go.RowKit
theorem yw:type_of% @List.mem_append_left:=@List.mem_append_left
theorem Bh:type_of% @List.mem_append_right:=@List.mem_append_right
theorem zl:type_of% @List.mem_flatMap:=@List.mem_flatMap
theorem je:type_of% @Bool.or_eq_true:=@Bool.or_eq_true
section
set_option linter.unusedSimpArgs false
set_option linter.unusedVariables false
abbrev Gam:=List (Nat × K)
abbrev Rho:=List (Nat × Res)
def aT:Gam->Nat->K
 | [],_=>.any
 | (s,k)::G,q=>if q=s then k else aT G q
def aK:Rho->Nat->Res
 | [],_=>.none
 | (s,x)::R,q=>if q=s then x else aK R q
def b5z (r:Nat) (R:Rho):Rho:=R.filter fun p=>p.1 != r
theorem OU {r q:Nat} (h:q≠r):∀ (R:Rho),aK (b5z r R) q=aK R q
 | []=>rfl
 | (s,x)::R=>by
  unfold b5z
  rw[List.filter_cons]
  split
  ·simp only[aK]
   split
   ·rfl
   ·exact OU h R
  ·rename_i hs
   have hs:s=r:=by simpa using hs
   simp only[aK]
   rw[jd (by rw[hs];exact h)]
   exact OU h R
def aft (R:Rho):List (Nat × Res)->Rho
 | []=>R
 | q::l=>aft (q::b5z q.1 R) l
theorem nM:∀ (l:List (Nat × Res)) (R:Rho),aK (aft R l)=after (aK R) l
 | [],_=>rfl
 | (r,x)::l,R=>by
  rw[aft,nM l,after]
  congr 1
  funext q
  simp only[aK]
  unfold aZ
  split
  ·rfl
  ·rename_i h;exact OU h R
def opK (G:Nat->K):Operand->K
 | .tmp s=>G s
 | .const v=>vO v
 | .func f=>.val (.clo f .unit) ()
 | .global _=>.any
def unW:K->K
 | .when _ k=>k
 | k=>k
def a7h:K->List Cd
 | .when b _=>[b=true]
 | _=>[]
def tmpsOf (op:Op):List Nat:=op.operands.toList.filterMap fun x=>match x with
 | .tmp s=>some s
 | _=>none
def iY (ts:List Nat) (G:Nat->K) (s:Nat):K:=if ts.contains s then G s else .any
def keepW (op:Op) (s:Nat):Bool:=match op with
 | .pick (.tmp c) _ _=>c != s
 | _=>false
def unG (op:Op) (G:Nat->K) (s:Nat):K:=if keepW op s then G s else unW (G s)
def JZ (op:Op) (s:Nat) (k:K):List Cd:=if keepW op s then [] else a7h k
structure Book where
 P:Program
 C:FuncId->List At->List Ctr
 T:Told
 N:Nat
 keep:Nat->Bool
def Book.Ok (B:Book):Prop:=(∀ g ts,∀ c ∈ B.C g ts,aI B.P g c)/\∀ g ts,∀ c ∈ B.T.nc g ts,NOk B.P g c
def eqb (c b:Bool):Bool:=c==b
def a7q (B:Book):Option Nat->Bool
 | some d=>decide (d<B.N)&&!B.keep d
 | none=>true
def a7L (g:Bool):List Cd->List Cd
 | []=>[]
 | p::ps=>[g=true->dK (p::ps)]
theorem a5v {g:Bool} {l:List Cd} (h:dK (a7L g l)) (hg:g=true):dK l:=by
 cases l with
 | nil=>trivial
 | cons p ps=>exact h.1 hg
def gdK (b:Bool):K->Option Bool
 | .val .bool c=>some (eqb c b)
 | .when r (.val .bool c)=>some (r&&eqb c b)
 | _=>none
def a0l (B:Book) (ρ:Nat->Res) (k:Operand->K) (d:Option Nat) (op:Op):MK:=match gOp B.P B.T k op with
 | some (vc,kk)=>some (vc,kk,[])
 | none=>nV B.P B.C B.T ρ k d op
def uY (B:Book) (G:Nat->K) (ρ:Nat->Res) (ops:Array Oper) (o:Oper):MK:=if a7q B o.dst then (match o.guard with
 | none=>nV B.P B.C B.T ρ (opK (iY (tmpsOf o.op) G)) o.dst o.op
 | some (j,b)=>match (ops[j]?).bind (·.dst) with
  | some s=>match gdK b (G s) with
   | some g=>match a0l B ρ (opK (iY (tmpsOf o.op) (unG o.op G))) o.dst o.op with
    | some (vc,k,[])=>some (a7L g ((tmpsOf o.op).flatMap (fun s=>JZ o.op s (G s))++vc),.when g k,[])
    | _=>none
   | none=>none
  | none=>none) else none
def YT (d:Option Nat) (k:K):List (Nat × K):=match d with
 | some d=>[(d,k)]
 | none=>[]
def gU {α:Type} (f:Nat->α):List (Nat × α)->Nat->α
 | []=>f
 | (r,x)::l=>gU (aZ f r x) l
theorem pJ:∀ (l:List (Nat × Res)) (ρ:Nat->Res),after ρ l=gU ρ l
 | [],_=>rfl
 | (_,_)::l,_=>pJ l _
def b2B (d:Option Nat) (k:K) (G:Gam):Gam:=match d with
 | some d=>(d,k)::G
 | none=>G
theorem uS (G:Gam) (d:Option Nat) (k:K):aT (b2B d k G)=gU (aT G) (YT d k):=by
 cases d with
 | none=>rfl
 | some d =>
  funext q
  show aT ((d,k)::G) q=aZ (aT G) d k q
  simp only[aT]
  unfold aZ
  split
  ·rfl
  ·rfl
structure Fits (E:Env) (ρ:Nat->Res) (w:World) (B:Book) (a:Act) (G:Nat->K):Prop where
 size:a.tmps.size=B.N
 defers:a.defers=[]
 wf:∀ s,(G s).wf ρ
 holds:∀ s,(G s).holds E ρ w (a.eval (.tmp s))
 par:∀ s,B.keep s=true->a.eval (.tmp s)=E.par s
section
variable {B:Book} {E:Env} {ρ:Nat->Res} {W w:World} {G:Nat->K} {a:Act}
theorem a9w {c:Bool} {ka kb k:K} {vc:List Cd} (h:kK c ka kb=some (vc,k)):k.wf ρ:=by
 cases ka<;>try (simp[kK] at h;done)
 case val t x =>
  cases kb<;>try (simp[kK] at h;done)
  case val t' y =>
   simp only[kK,jq,bf] at h
   obtain⟨y',h1,rfl,rfl⟩:=h
   trivial
  case when b kb =>
   cases kb<;>try (simp[kK] at h;done)
   case val t' y =>
    simp only[kK,jq,bf] at h
    obtain⟨y',h1,rfl,rfl⟩:=h
    trivial
 case when b ka =>
  cases ka<;>try (simp[kK] at h;done)
  case val t x =>
   cases kb<;>try (simp[kK] at h;done)
   case val t' y =>
    simp only[kK,jq,bf] at h
    obtain⟨y',h1,rfl,rfl⟩:=h
    trivial
   case when b' kb =>
    cases kb<;>try (simp[kK] at h;done)
    case val t' y =>
     simp only[kK,jq,bf] at h
     obtain⟨y',h1,rfl,rfl⟩:=h
     trivial
def K.isVal:K->Bool
 | .val _ _=>true
 | _=>false
theorem EU {k:K} (h:k.isVal=true):k.wf ρ:=by cases k<;>simp_all [K.isVal];trivial
theorem a8f {op:BinOp} {k:IntKind} {a b:Int} {vc:List Cd} {kk:K} (h:a8e op k a b=some (vc,kk)):kk.isVal=true:=by
 cases op<;>simp only[a8e,aj,bf] at h<;>first|(cases h;done)|(obtain⟨_,rfl⟩:=h;rfl)
theorem b1w {op:BinOp} {a b:Bool} {vc:List Cd} {kk:K} (h:eqB op a b=some (vc,kk)):kk.isVal=true:=by
 cases op<;>simp only[eqB,aj,bf] at h<;>first|(cases h;done)|(obtain⟨_,rfl⟩:=h;rfl)
theorem OG {r:Bool} {P:Program} {s:TypeId} {i:Nat} {ty:Ty} {y:ty.den} {vc:List Cd} {kk:K} (h:xU r P s i ty y=some (vc,kk)):kk.isVal=true:=by
 unfold xU at h
 split at h<;>try(cases h;done)
 split at h<;>try(cases h;done)
 simp only[aj,bf] at h
 obtain⟨_,rfl⟩:=h
 cases r<;>rfl
theorem UZ {P:Program} {k:Operand->K} {op:Op} {vc:List Cd} {kk:K} (h:dY P k op=some (vc,kk)) (hw:∀ x,(k x).wf ρ):kk.wf ρ:=by
 cases op<;>try (simp[dY] at h;done)
 case move x=>simp only[dY,aj,bf] at h;rw[<-h.2];exact hw x
 case assign x=>simp only[dY,aj,bf] at h;rw[<-h.2];exact hw x
 case pick c a b =>
  simp only[dY] at h
  split at h<;>first|(cases h;done)|exact a9w h
 case call c =>
  obtain⟨cl,xs,ts⟩:=c
  cases cl<;>try (simp[dY] at h;done)
  rename_i bi
  cases bi<;>try (simp[dY] at h;done)
  simp only[dY] at h
  (repeat' split at h)<;>first|(cases h;done)|(simp only[JE,b5j,aj,bf] at h;rw[<-h.2];trivial)
 case unOp op t x =>
  cases op<;>simp only[dY] at h<;>try(cases h;done)
  all_goals (split at h<;>first|(cases h;done)|(simp only[b5w,b5t,VX,aj,bf] at h;rw[<-h.2];trivial))
 case binOp op t x y yt =>
  simp only[dY] at h
  split at h<;>try(cases h;done)
  ·split at h<;>first|(cases h;done)|exact EU (a8f h)
  ·split at h<;>first|(cases h;done)|exact EU (b1w h)
  ·split at h<;>first|(cases h;done)|(rename_i hb;cases op<;>simp only[b2o,aj,bf] at h<;>first|(cases h;done)|(rw[<-h.2];trivial))
  ·split at h<;>try(cases h;done)
   split at h<;>try(cases h;done)
   cases op<;>simp only[eqS,aj,bf] at h<;>first|(cases h;done)|(rw[<-h.2];trivial)
 case extract x i =>
  simp only[dY] at h
  split at h<;>try(cases h;done)
  ·split at h<;>first|(cases h;done)|(simp only[aj,bf] at h;rw[<-h.2];trivial)
  ·rename_i ks hkx
   have hwx:=hw x
   rw[hkx] at hwx
   split at h<;>first|(cases h;done)|(simp only[aj,bf] at h;rw[<-h.2])
   rename_i e
   exact PL.1 (hwx _ (Cb e))
 case field s x i =>
  simp only[dY] at h
  split at h<;>first|(cases h;done)|exact EU (OG h)
 case fieldAddr s x i =>
  simp only[dY] at h
  split at h<;>first|(cases h;done)|exact EU (OG h)
 all_goals
  simp only[dY] at h
  (repeat' split at h)<;>first|(cases h;done)|(simp only[EF,a3s,b1J,VX,aj,bf] at h;rw[<-h.2];trivial)
theorem a5j (v:Value):(vO v).wf ρ:=by unfold vO;split<;>trivial
theorem FM (hf:Fits E ρ w B a G):(∀ x,(opK G x).wf ρ)/\∀ x,(opK G x).holds E ρ w (a.eval x):=by
 constructor
 ·intro x
  cases x with
  | tmp s=>exact hf.wf s
  | const v=>exact a5j v
  | func f=>trivial
  | global g=>trivial
 ·intro x
  cases x with
  | tmp s=>exact hf.holds s
  | const v=>exact a5i v
  | func f=>exact⟨[.func (.func f) #[] #[]],rfl,[],rfl,rfl⟩
  | global g=>trivial
theorem Fits.put {E':Env} {ρ':Nat->Res} {w':World} {o:Oper} {k:K} {v:Value} (hf:Fits E ρ w B a G) (hx:Ext E ρ w E' ρ' w') (hd:a7q B o.dst=true) (hw:k.wf ρ') (hk:k.holds E' ρ' w' v):Fits E' ρ' w' B (a.put o.dst v) (gU G (YT o.dst k)):=by
 cases hod:o.dst with
 | none=>exact⟨hf.size,hf.defers,fun s=>hx.wf _ (hf.wf s),fun s=>hx.holds _ _ (hf.wf s) (hf.holds s),fun s hs=>by rw[hx.par];exact hf.par s hs⟩
 | some d =>
  rw[hod] at hd
  have hd:d<B.N/\B.keep d=false:=by simpa [a7q] using hd
  obtain⟨hd,hkd⟩:=hd
  refine⟨by simpa [Act.put] using hf.size,hf.defers,fun s=>?_,fun s=>?_,fun s hs=>?_⟩
  ·show K.wf ρ' (aZ G d k s)
   unfold aZ
   split
   ·exact hw
   ·exact hx.wf _ (hf.wf s)
  ·show K.holds E' ρ' w' (aZ G d k s) _
   unfold aZ
   split
   ·rename_i e
    subst e
    have:(a.put (some s) v).eval (.tmp s)=v:=by
     have hs9:=hf.size
     have hs8:s<a.tmps.size:=by rw[hs9];exact hd
     simp[Act.put,Act.eval,ou,hs8]
    rw[this];exact hk
   ·rename_i e
    have:(a.put (some d) v).eval (.tmp s)=a.eval (.tmp s):=by
     simp[Act.put,Act.eval,ou,Array.getElem?_setIfInBounds,show ¬ d=s from fun e'=>e e'.symm]
    rw[this];exact hx.holds _ _ (hf.wf s) (hf.holds s)
  ·have e:¬ d=s:=fun e=>by subst e;rw[hkd] at hs;cases hs
   have:(a.put (some d) v).eval (.tmp s)=a.eval (.tmp s):=by
    simp[Act.put,Act.eval,ou,Array.getElem?_setIfInBounds,e]
   rw[this,hx.par];exact hf.par s hs
theorem b8U {k:K} (h:k.wf ρ) (hc:dK (a7h k)):(unW k).wf ρ:=by cases k<;>first|exact h|exact h hc.1
theorem a6v {k:K} {v:Value} (h:k.holds E ρ w v) (hc:dK (a7h k)):(unW k).holds E ρ w v:=by cases k<;>first|exact h|exact h.1 hc.1
theorem qO {α:Type _} {f:α->List Cd}:∀ {l:List α} {s:α},dK (l.flatMap f)->s ∈ l->dK (f s)
 | x::l,s,h,hs=>by
  rw[List.flatMap_cons] at h
  obtain⟨h1,h2⟩:=bY.1 h
  rcases qp.1 hs with rfl|hs
  ·exact h1
  ·exact qO h2 hs
theorem a5S {ts:List Nat} (hf:Fits E ρ w B a G):Fits E ρ w B a (iY ts G):=by
 refine⟨hf.size,hf.defers,fun s=>?_,fun s=>?_,hf.par⟩
 ·unfold iY;split
  ·exact hf.wf s
  ·trivial
 ·unfold iY;split
  ·exact hf.holds s
  ·trivial
theorem a2h {ts:List Nat} {op:Op} (hf:Fits E ρ w B a G) (hc:dK (ts.flatMap fun s=>JZ op s (G s))):Fits E ρ w B a (iY ts (unG op G)):=by
 refine⟨hf.size,hf.defers,fun s=>?_,fun s=>?_,hf.par⟩
 ·unfold iY;split
  ·rename_i hs
   have hc:=qO hc (show s ∈ ts by simpa using hs)
   unfold unG;unfold JZ at hc
   split
   ·exact hf.wf s
   ·rename_i hk;rw[jd hk] at hc;exact b8U (hf.wf s) hc
  ·trivial
 ·unfold iY;split
  ·rename_i hs
   have hc:=qO hc (show s ∈ ts by simpa using hs)
   unfold unG;unfold JZ at hc
   split
   ·exact hf.holds s
   ·rename_i hk;rw[jd hk] at hc;exact a6v (hf.holds s) hc
  ·trivial
theorem a0T (hB:B.Ok) {ops:Array Oper} {o:Oper} {vc:List Cd} {kk:K} {l:List (Nat × Res)} (h:uY B G ρ ops o=some (vc,kk,l)) (hv:dK vc) (hM:Mem E ρ W w) (hf:Fits E ρ w B a G)
  {next:Act->World->Prop} {Q:Exit->Act->World->Prop} (hn:∀ v w' E',Mem E' (after ρ l) W w'->Ext E ρ w E' (after ρ l) w'->kk.wf (after ρ l)->kk.holds E' (after ρ l) w' v->next (a.put o.dst v) w') :
  if Region.wanted o (yielded ops a.tmps) then o.wp B.P a w next Q\/(o.asks B.P a w/\LetsOut Q) else next (a.put o.dst undef) w:=by
 unfold uY at h
 split at h<;>try(cases h;done)
 rename_i hd
 cases hg:o.guard with
 | none =>
  simp only[hg] at h
  obtain⟨h1,h2⟩:=FM (a5S (ts:=tmpsOf o.op) hf)
  have hw:Region.wanted o (yielded ops a.tmps)=true:=by simp[Region.wanted,hg]
  rw[jl hw]
  exact .inl (VK hB.1 hB.2 h hv hM h1 h2 (fun vc' kk' hp=>UZ hp h1) next Q hn)
 | some jb =>
  obtain⟨j,b⟩:=jb
  simp only[hg] at h
  split at h<;>try(cases h;done)
  rename_i s hs
  split at h<;>try(cases h;done)
  rename_i g hks
  split at h<;>try(cases h;done)
  rename_i vc1 k1 hst
  simp only[aj,bf] at h
  obtain⟨rfl,rfl,rfl⟩:=h
  have hwn:Region.wanted o (yielded ops a.tmps)=g:=by
   have hsv:=hf.holds s
   have hv1:∀ c:Bool,a.tmps.getD s undef=.bool c->Region.wanted o (yielded ops a.tmps)=eqb c b:=fun c h1=>by
    have ht:a.tmps[s]?=some (.bool c):=by
     rw[ou] at h1
     cases h2:a.tmps[s]? with
     | none=>rw[h2] at h1;cases h1
     | some v=>rw[h2] at h1;exact xg some h1
    simp[Region.wanted,hg,yielded,hs,ht]
    rfl
   have hv2:a.tmps.getD s undef=undef->Region.wanted o (yielded ops a.tmps)=false:=fun h1=>by
    rw[ou] at h1
    cases h2:a.tmps[s]? with
    | none=>simp[Region.wanted,hg,yielded,hs,h2]
    | some v =>
     rw[h2] at h1
     have h1:v=undef:=h1
     subst h1
     simp[Region.wanted,hg,yielded,hs,h2]
     try first|rfl|(intro e;cases e;done)|(simp[undef];done)|(unfold undef;simp;done)
   unfold gdK at hks
   split at hks<;>first|(cases hks;done)|skip
   ·rename_i c hk
    rw[hk] at hsv
    have hsv:=nX hsv
    simp only[aj] at hks
    rw[<-hks];exact hv1 c hsv
   ·rename_i r c hk
    rw[hk] at hsv
    simp only[aj] at hks
    rw[<-hks]
    cases r with
    | true=>have hsv:=nX (hsv.1 rfl);exact hv1 c hsv
    | false=>exact hv2 (hsv.2 rfl)
  rw[hwn]
  by_cases hcb:g=true
  ·rw[jl hcb]
   obtain⟨hv1,hv2⟩:=bY.1 (a5v hv hcb)
   obtain⟨h1,h2⟩:=FM (a2h hf hv1)
   unfold a0l at hst
   split at hst
   ·rename_i vc2 k2 hgo
    simp only[aj,bf] at hst
    obtain⟨rfl,rfl,_⟩:=hst
    exact .inl ((b4C hgo hv2 hM h2).steps next Q (fun v w' E' m1 m2 m3 m4=>hn v w' E' m1 m2 (fun _=>m3) ⟨fun _=>m4,fun e=>by rw[hcb] at e;cases e⟩))
   ·exact .inl (VK hB.1 hB.2 hst hv2 hM h1 h2 (fun vc' kk' hp=>UZ hp h1) next Q (fun v w' E' m1 m2 m3 m4=>hn v w' E' m1 m2 (fun _=>m3) ⟨fun _=>m4,fun e=>by rw[hcb] at e;cases e⟩))
  ·rw[jd hcb]
   exact hn undef w E hM (Ext.refl _ _ _) (fun e=>absurd e hcb) ⟨fun e=>absurd e hcb,fun _=>rfl⟩
def wJ (B:Book) (ops:Array Oper):List Oper->Gam->Rho->Option (List Cd × Gam × Rho)
 | [],G,R=>some ([],G,R)
 | o::rest,G,R=>match uY B (aT G) (aK R) ops o with
  | some (vc,k,l)=>match wJ B ops rest (b2B o.dst k G) (aft R l) with
   | some (vc',G',R')=>some (vc++vc',G',R')
   | none=>none
  | none=>none
theorem UU {ops:Array Oper} {o:Oper} {x:List Cd × K × List (Nat × Res)} (h:uY B G ρ ops o=some x):a7q B o.dst=true:=by
 unfold uY at h
 split at h
 ·assumption
 ·cases h
theorem VH (hB:B.Ok) {ops:Array Oper} {Q:Exit->Act->World->Prop}:∀ {l:List Oper} {G:Gam} {R:Rho} {E:Env} {w:World} {a:Act} {vc:List Cd} {G':Gam} {R':Rho},wJ B ops l G R=some (vc,G',R')->dK vc->Mem E (aK R) W w->Fits E (aK R) w B a (aT G) ->
  (∀ E' a' w',E'.fix=E.fix->Mem E' (aK R') W w'->Fits E' (aK R') w' B a' (aT G')->Q .normal a' w')->wpList B.P ops Q l a w
 | [],G,R,E,w,a,vc,G',R',h,hv,hM,hf,hq=>by
  simp only[wJ,aj,bf] at h
  obtain⟨_,rfl,rfl⟩:=h
  exact hq E a w rfl hM hf
 | o::rest,G,R,E,w,a,vc,G',R',h,hv,hM,hf,hq=>by
  simp only[wJ] at h
  split at h<;>try(cases h;done)
  rename_i vc1 k l1 h1
  split at h<;>try(cases h;done)
  rename_i vc2 G2 R2 h2
  simp only[aj,bf] at h
  obtain⟨rfl,rfl,rfl⟩:=h
  obtain⟨hv1,hv2⟩:=bY.1 hv
  exact a0T hB h1 hv1 hM hf (fun v w' E' m1 m2 m3 m4=>by
   rw[<-nM] at m1 m2 m3 m4
   exact VH hB h2 hv2 m1 (by rw[uS];exact hf.put m2 (UU h1) m3 m4) (fun E2 a2 w2 hb2=>hq E2 a2 w2 (hb2.trans m2.fix)))
end
end
section
set_option linter.unusedSimpArgs false
set_option linter.unusedVariables false
set_option maxRecDepth 20000
theorem a6y {P:Program} {md:Region.Mode} {ops:Array Oper} {Q:Exit->Act->World->Prop} (I:Array Bool->Act->World->Prop) (hd:qP md ops=true)
  (hend:∀ L a w,I L a w->(∀ i,i<ops.size->L.getD i true=true)->Q .normal a w)
  (hstep:∀ L a w i o,I L a w->ops[i]?=some o->L.getD i true=false->(∀ e ∈ o.after,Region.binds md e=true->L.getD e.on false=true)->wpOp P ops Q i (I (L.setIfInBounds i true)) a w) :
  ∀ fuel L a w,DJ L<=fuel->I L a w->wpAny P md ops Q fuel L a w:=by
 intro fuel
 induction fuel with
 | zero =>
  intro L a w hu hI
  have hn:Region.ready md ops L=[]:=by
   cases hr:Region.ready md ops L with
   | nil=>rfl
   | cons i r =>
    exfalso
    obtain⟨o,_,h2,_⟩:=zX (by rw[hr];exact lg)
    have:=wQ h2
    omega
  exact⟨hn,hend L a w hI (mY hd hn)⟩
 | succ fuel ih =>
  intro L a w hu hI
  refine⟨fun hn=>hend L a w hI (mY hd hn),fun i hi=>?_⟩
  obtain⟨o,h1,h2,h3⟩:=zX hi
  refine wpOp_mono (fun a' w' h'=>ih _ _ _ ?_ h') (hstep L a w i o hI h1 h2 h3)
  have:=wQ h2
  omega
def yH:K0->List Nat
 | .val _ _=>[]
 | .own r _=>[r]
 | .ptr r _=>[r]
 | .kY r=>[r]
def K.res:K->List Nat
 | .ptr r _=>[r]
 | .own r _=>[r]
 | .when _ k=>k.res
 | .cell r _ _=>[r]
 | .mrow r _ _=>[r]
 | .mpos r _ _ _=>[r]
 | .kY r=>[r]
 | .mix ks=>ks.flatMap yH
 | .fn _ ks=>ks.flatMap yH
 | .sng r _=>[r]
 | .pls ks=>ks.flatMap yH
 | .pcl ks _=>ks.flatMap yH
 | _=>[]
def b8P:Res->List Nat
 | .jW k=>k.res
 | _=>[]
def oC (ρ:Nat->Res) (k:K):List Nat:=k.res++k.res.flatMap fun r=>b8P (ρ r)
section
variable {P:Program} {C:FuncId->List At->List Ctr} {T:Told} {ρ ρ':Nat->Res}
theorem sF {α:Type} {f g:Nat->α} {r:Nat} (h:f r=g r):∀ (l:List (Nat × α)),gU f l r=gU g l r
 | []=>h
 | (q,x)::l=>by
  simp only[gU]
  refine sF ?_ l
  unfold aZ;split
  ·rfl
  ·exact h
theorem jJ {α:Type} {r:Nat}:∀ (l:List (Nat × α)) (f:Nat->α),r ∉ l.map (·.1)->gU f l r=f r
 | [],_,_=>rfl
 | (q,x)::l,f,h=>by
  simp only[zf,qp,not_or] at h
  simp only[gU]
  rw[jJ l _ h.2,aJ _ _ h.1]
theorem JV {k:K} (h:∀ r ∈ k.res,ρ r=ρ' r):qI ρ k=qI ρ' k:=by
 cases k<;>try rfl
 ·rename_i r v
  simp only[qI,h r (by simp[K.res])]
 ·rename_i r v i
  simp only[qI,h r (by simp[K.res])]
theorem oK {k:K} {t:Option Ty} (h:∀ r ∈ k.res,ρ r=ρ' r):tJ ρ t k=tJ ρ' t k:=by
 cases k<;>first|rfl|exact JV h
theorem a2N {k:K} {t:Option Ty} (h:∀ r ∈ k.res,ρ r=ρ' r):a2M ρ t k=a2M ρ' t k:=by
 have:SY ρ k=SY ρ' k:=by
  cases k<;>try rfl
  ·rename_i t x;cases t<;>rfl
  ·rename_i r v
   simp only[SY,h r (by simp[K.res])]
  ·rename_i r v i
   simp only[SY,h r (by simp[K.res])]
 unfold a2M
 rw[this,oK h]
theorem JU {t:Option Ty}:∀ {ks:List K} {ρ ρ':Nat->Res},(∀ k ∈ ks,∀ r ∈ k.res,ρ r=ρ' r)->BH ρ t ks=BH ρ' t ks
 | [],_,_,_=>rfl
 | k::ks,ρ,ρ',h=>by
  simp only[BH,oK (h k (lg ..))]
  split
  ·rename_i p l _
   rw[JU (ρ:=after ρ l) (ρ':=after ρ' l) (fun k' hk' r hr=>by rw[pJ,pJ];exact sF (h k' (jw _ hk') r hr) l)]
  ·rfl
theorem xI:∀ {ts:List Ty} {ks:List K} {ρ ρ':Nat->Res},(∀ k ∈ ks,∀ r ∈ k.res,ρ r=ρ' r)->xH ρ ts ks=xH ρ' ts ks
 | [],[],_,_,_=>rfl
 | [],_::_,_,_,_=>rfl
 | _::_,[],_,_,_=>rfl
 | t::ts,k::ks,ρ,ρ',h=>by
  simp only[xH,oK (h k (lg ..))]
  split
  ·rename_i p l _
   rw[xI (ρ:=after ρ l) (ρ':=after ρ' l) (fun k' hk' r hr=>by rw[pJ,pJ];exact sF (h k' (jw _ hk') r hr) l)]
  ·rfl
theorem ZM {k:Operand->K} {d:Option Nat} {op:Op} (hk:∀ x,∀ r ∈ (k x).res,ρ r=ρ' r) (hd:∀ r,d=some r->ρ r=ρ' r):pO P T ρ k d op=pO P T ρ' k d op:=by
 cases op<;>try rfl
 case alloc t =>
  simp only[pO]
  split
  ·rw[hd _ (by first|assumption|rfl)]
  ·rfl
 case box t x =>
  simp only[pO,oK (hk x)]
  split
  ·rw[hd _ (by first|assumption|rfl)]
  ·rfl
 case load t x =>
  simp only[pO]
  split
  ·rename_i r o hx;rw[hk x r (by rw[hx];simp[K.res])]
  ·rfl
 case store t x y =>
  simp only[pO,oK (hk y)]
  split
  ·rename_i r o _ _ hx _;rw[hk x r (by rw[hx];simp[K.res])]
  ·rfl
 case fieldAddr s x i =>
  simp only[pO]
  split
  ·rename_i r o hx;rw[hk x r (by rw[hx];simp[K.res])]
  ·rfl
 case indexAddr s x i =>
  simp only[pO]
  split
  ·rename_i r o _ _ hx _;rw[hk x r (by rw[hx];simp[K.res])]
  ·rfl
theorem a1b {k:Operand->K} {d:Option Nat} {op:Op} (hk:∀ x,∀ r ∈ (k x).res,ρ r=ρ' r) (hd:∀ r,d=some r->ρ r=ρ' r):yV P T ρ k d op=yV P T ρ' k d op:=by
 cases op<;>try rfl
 case buildSlice t len parts =>
  simp only[yV]
  have h1:BH ρ (ZU P T t) (parts.toList.map fun q=>k q.2)=BH ρ' (ZU P T t) (parts.toList.map fun q=>k q.2):=JU (fun k' hk' r hr=>by
   obtain⟨q,_,rfl⟩:=qm.1 hk'
   exact hk q.2 r hr)
  rw[h1]
  split
  ·split
   ·split
    ·split
     ·rw[hd _ (by first|assumption|rfl)]
     ·rfl
    ·rfl
   ·rfl
   ·rfl
  ·rfl
 case call c =>
  obtain⟨cl,xs,ts⟩:=c
  cases cl<;>try rfl
  rename_i bi
  cases bi<;>try rfl
  simp only[yV]
  split
  ·rename_i s x t t' _ _
   split
   ·simp only[a2N (hk x)]
    split
    ·rename_i r v hs;rw[hk s r (by rw[hs];simp[K.res])]
    ·split
     ·rw[hd _ (by first|assumption|rfl)]
     ·rfl
    ·rfl
   ·rfl
  ·rfl
theorem yT {k:K} {r:Nat} (h:r ∈ k.res):r ∈ oC ρ k:=yw _ h
theorem a9J {k k':K} {r q:Nat} (h:r ∈ k.res) (hr:ρ r=.jW k') (hq:q ∈ k'.res):q ∈ oC ρ k:=Bh _ (zl.2 ⟨r,h,by rw[hr];exact hq⟩)
theorem zG {k:K} {t:Option Ty} (h:∀ r ∈ k.res,ρ r=ρ' r):rZ ρ t k=rZ ρ' t k:=by
 cases k<;>try rfl
 ·rename_i r v
  simp only[rZ,h r (by simp[K.res])]
 ·rename_i r v i
  simp only[rZ,h r (by simp[K.res])]
theorem KQ {k:K} {t:Option Ty} (h:∀ r ∈ oC ρ k,ρ r=ρ' r):BQ ρ t k=BQ ρ' t k:=by
 have h0:∀ r ∈ k.res,ρ r=ρ' r:=fun r hr=>h r (yT hr)
 cases k
 case ptr r o=>simp only[BQ,h0 r (by simp[K.res])]
 case kY r =>
  simp only[BQ,<-h0 r (by simp[K.res])]
  split
  ·rename_i k9 hr
   split
   ·rw[zG (ρ:=ρ) (ρ':=ρ') (fun q hq=>h q (a9J (k:=.kY r) (by simp[K.res]) hr hq))]
   ·rfl
  ·rfl
 all_goals exact zG (t:=t) h0
theorem b5a (k:K0):(k0K k).res=yH k:=by cases k<;>rfl
theorem zF:∀ {u:Ty} {ks:List K0},(∀ k ∈ ks,∀ r ∈ oC ρ (k0K k),ρ r=ρ' r)->fU ρ u ks=fU ρ' u ks
 | .unit,[],_=>rfl
 | .pair a b,k::ks,h=>by
  simp only[fU]
  rw[KQ (h k (lg ..)),zF (fun k' hk'=>h k' (jw _ hk'))]
 | .unit,_::_,_=>rfl
 | .pair _ _,[],_=>rfl
 | .bool,_,_=>rfl
 | .int _,_,_=>rfl
 | .lf _,_,_=>rfl
 | .list _,_,_=>rfl
 | .arr _ _,_,_=>rfl
 | .ref _,_,_=>rfl
 | .clo _ _,_,_=>rfl
 | .nls _,_,_=>rfl
theorem a4t {g:FuncId} {ks:List K0} {k:K0} {r:Nat} (hk:k ∈ ks) (h:r ∈ oC ρ (k0K k)):r ∈ oC ρ (.fn g ks):=by
 have h1:∀ q ∈ (k0K k).res,q ∈ (K.fn g ks).res:=fun q hq=>zl.2 ⟨k,hk,by rw[<-b5a];exact hq⟩
 rcases ug.1 h with h|h
 ·exact yT (h1 r h)
 ·obtain⟨q,hq,h⟩:=zl.1 h
  exact Bh _ (zl.2 ⟨q,h1 q hq,h⟩)
theorem a1o {k:K} {t:Ty} (h:∀ r ∈ oC ρ k,ρ r=ρ' r):RZ ρ t k=RZ ρ' t k:=by
 cases k
 case fn g ks =>
  simp only[RZ]
  split
  ·rw[zF (fun k hk r hr=>h r (a4t hk hr))]
  ·rfl
 all_goals exact KQ (t:=some t) h
theorem rY:∀ {ts:List Ty} {ks:List K},(∀ k ∈ ks,∀ r ∈ oC ρ k,ρ r=ρ' r)->lV ρ ts ks=lV ρ' ts ks
 | [],[],_=>rfl
 | [],_::_,_=>rfl
 | _::_,[],_=>rfl
 | t::ts,k::ks,h=>by
  simp only[lV]
  rw[a1o (h k (lg ..)),rY (fun k' hk'=>h k' (jw _ hk'))]
theorem xJ {ks:List K} (h:∀ k ∈ ks,∀ r ∈ oC ρ k,ρ r=ρ' r):∀ cs:List Ctr,BI ρ ks cs=BI ρ' ks cs
 | []=>rfl
 | c::cs=>by
  have e:ZJ ρ c ks=ZJ ρ' c ks:=by
   unfold ZJ
   rw[rY h,xI (fun k hk r hr=>h k hk r (yT hr))]
  simp only[BI]
  rw[e,xJ h cs]
theorem WW {k:Operand->K} {op:Op} (hk:∀ x,∀ r ∈ oC ρ (k x),ρ r=ρ' r):tK P C ρ k op=tK P C ρ' k op:=by
 cases op<;>try rfl
 case makeFunc fn first caps=>cases fn<;>rfl
 case call c =>
  obtain⟨cl,xs,ts⟩:=c
  cases cl<;>try rfl
  rename_i f
  simp only[tK]
  have hcap:∀ (t:Ty) (x:t.den) (k':K),k' ∈ SB t x->k'.res=[]:=by
   intro t
   induction t with
   | pair a b _ ih =>
    intro x k' h
    rcases qp.1 h with rfl|h
    ·rfl
    ·exact ih x.2 k' h
   | _=>intro x k' h;cases h
  split
  ·rename_i g t cx hf
   rw[xJ (fun k' hk' r hr=>by
    rcases ug.1 hk' with h|h
    ·obtain⟨q,_,rfl⟩:=qm.1 h;exact hk q r hr
    ·exfalso
     unfold oC at hr
     rw[hcap t cx k' h] at hr
     simp at hr)]
  ·rename_i g l hf
   rw[xJ (fun k' hk' r hr=>by
    rcases ug.1 hk' with h|h
    ·obtain⟨q,_,rfl⟩:=qm.1 h;exact hk q r hr
    ·obtain⟨q,hq,rfl⟩:=qm.1 h
     exact hk f r (by rw[hf];exact a4t hq hr))]
  ·rfl
theorem a2q {k:Operand->K} {op:Op} (hk:∀ x,∀ r ∈ (k x).res,ρ r=ρ' r):FT P ρ k op=FT P ρ' k op:=by
 cases op<;>try rfl
 case indexAddr s x i =>
  simp only[FT]
  split
  ·rename_i r v _ _ hx _;rw[hk x r (by rw[hx];simp[K.res])]
  ·rename_i r v _ _ _ hx _;rw[hk x r (by rw[hx];simp[K.res])]
  ·rfl
  ·rfl
 case load t x =>
  simp only[FT]
  split
  ·rfl
  ·rename_i r v _ hx;rw[hk x r (by rw[hx];simp[K.res])]
  ·rename_i r v _ _ hx;rw[hk x r (by rw[hx];simp[K.res])]
  ·rename_i r hx;rw[hk x r (by rw[hx];simp[K.res])]
  ·rfl
 case call c =>
  obtain⟨cl,xs,ts⟩:=c
  cases cl<;>try rfl
  rename_i bi
  cases bi<;>try rfl
  simp only[FT]
  split
  ·rename_i x t _ _
   split
   ·split
    ·rename_i r v hx;rw[hk x r (by rw[hx];simp[K.res])]
    ·rename_i r v _ hx;rw[hk x r (by rw[hx];simp[K.res])]
    ·rfl
    ·rfl
   ·rfl
  ·rfl
theorem a2U {k:Operand->K} {d:Option Nat} {op:Op} (hk:∀ x,∀ r ∈ (k x).res,ρ r=ρ' r) (hd:∀ r,d=some r->ρ r=ρ' r):ZA P T ρ k d op=ZA P T ρ' k d op:=by
 cases op<;>try rfl
 case store t x y =>
  have hown:ownB ρ (k y)=ownB ρ' (k y):=by
   cases hy:k y<;>try rfl
   rename_i r v
   simp only[ownB]
   rw[hk y r (by rw[hy];simp[K.res])]
  simp only[ZA,oK (hk y),hown]
  split
  ·rename_i r v i hx
   rw[hk x r (by rw[hx];simp[K.res])]
   split
   ·rfl
   ·split
    ·rfl
    ·rename_i r2 v2 hy
     rw[hk y r2 (by rw[hy];simp[K.res])]
    ·rfl
   ·rfl
  ·rename_i r v id i hx;rw[hk x r (by rw[hx];simp[K.res])]
  ·rename_i r hx;rw[hk x r (by rw[hx];simp[K.res])]
  ·rfl
 case makeSlice t n m =>
  simp only[ZA]
  split
  ·rw[hd _ (by first|assumption|rfl)]
  ·rfl
theorem a2e {k:Operand->K} {d:Option Nat} {op:Op} (hk:∀ x,∀ r ∈ (k x).res,ρ r=ρ' r) (hd:∀ r,d=some r->ρ r=ρ' r):QG P T ρ k d op=QG P T ρ' k d op:=by
 cases op<;>try rfl
 case buildSlice t len parts =>
  simp only[QG]
  split<;>try rfl
  split<;>try rfl
  rename_i r
  split<;>try rfl
  split<;>try rfl
  split<;>try rfl
  split
  ·rw[hd _ (by first|assumption|rfl)]
  ·rename_i y _ _
   split
   ·rename_i r2 v2 hy;rw[hk y r2 (by rw[hy];simp[K.res])]
   ·rfl
  ·rfl
 case call c =>
  obtain⟨cl,xs,ts⟩:=c
  cases cl<;>try rfl
  rename_i bi
  cases bi<;>try rfl
  simp only[QG]
  split
  ·rename_i s x t t' _ _
   split
   ·split
    ·rename_i r2 v2 hx
     rw[hk x r2 (by rw[hx];simp[K.res])]
     split
     ·split
      ·rename_i r v hs;rw[hk s r (by rw[hs];simp[K.res])]
      ·rw[hd _ (by first|assumption|rfl)]
      ·rfl
     ·rfl
    ·rfl
   ·rfl
  ·rfl
theorem KP {r:Nat} {row:Option Nat}:∀ {ts:List Ty} {ks:List K},(∀ k ∈ ks,∀ q ∈ k.res,ρ q=ρ' q)->GX ρ r row ts ks=GX ρ' r row ts ks
 | [],[],_=>rfl
 | [],_::_,_=>rfl
 | _::_,[],_=>rfl
 | t::ts,k::ks,h=>by
  simp only[GX]
  rw[zG (h k (lg ..)),KP (fun k' hk'=>h k' (jw _ hk'))]
theorem a0H {k:LK} {k0:K} (h:∀ q ∈ k0.res,ρ q=ρ' q):a3N ρ k k0=a3N ρ' k k0:=by
 cases k with
 | row e t =>
  cases k0<;>try rfl
  case own r v=>exact xg (MG e t r v) (h r (by simp[K.res]))
  case mrow r v i=>exact xg (MF e t r v i) (h r (by simp[K.res]))
 | mat e e2 t =>
  cases k0<;>try rfl
  case own r v=>exact xg (MC e e2 t r v) (h r (by simp[K.res]))
theorem DR {d:Option Nat} {ks:List K} (h:∀ k ∈ ks,∀ r ∈ oC ρ k,ρ r=ρ' r) (hd:∀ r,d=some r->ρ r=ρ' r):∀ cs:List kR,xK ρ d ks cs=xK ρ' d ks cs
 | []=>rfl
 | c::cs=>by
  have e:CG ρ d ks c=CG ρ' d ks c:=by
   cases c with
   | mk k args pre made =>
    simp only[CG]
    split
    ·rw[hd _ (by first|assumption|rfl),rY h]
    ·rfl
   | chg k args res pre out fn =>
    cases ks with
    | nil=>rfl
    | cons k0 ks =>
     have h0:∀ k ∈ k0::ks,∀ r ∈ k.res,ρ r=ρ' r:=fun k hk r hr=>h k hk r (yT hr)
     simp only[CG]
     rw[a0H (h0 k0 (lg ..)),xI (fun k hk=>h0 k (jw _ hk))]
     simp only[KP (ρ:=ρ) (ρ':=ρ') (ks:=ks) (fun k hk=>h0 k (jw _ hk))]
  simp only[xK]
  rw[e,DR h hd cs]
theorem WV {k:Operand->K} {d:Option Nat} {op:Op} (hk:∀ x,∀ r ∈ oC ρ (k x),ρ r=ρ' r) (hd:∀ r,d=some r->ρ r=ρ' r):xO P T ρ k d op=xO P T ρ' k d op:=by
 cases op<;>try rfl
 case call c =>
  obtain⟨cl,xs,ts⟩:=c
  cases cl<;>try rfl
  rename_i f
  simp only[xO]
  have hcap:∀ (t:Ty) (x:t.den) (k':K),k' ∈ SB t x->k'.res=[]:=by
   intro t
   induction t with
   | pair a b _ ih =>
    intro x k' h
    rcases qp.1 h with rfl|h
    ·rfl
    ·exact ih x.2 k' h
   | _=>intro x k' h;cases h
  split
  ·split
   ·refine DR (fun k9 hk9 r hr=>?_) hd _
    rcases ug.1 hk9 with hk9|hk9
    ·obtain⟨q,_,rfl⟩:=qm.1 hk9;exact hk q r hr
    ·exfalso
     unfold oC at hr
     rw[hcap _ _ _ hk9] at hr
     simp at hr
   ·rfl
  ·rfl
theorem a0k {k:Operand->K} {op:Op} (hk:∀ x,∀ r ∈ (k x).res,ρ r=ρ' r):TR P ρ k op=TR P ρ' k op:=by
 unfold TR
 split
 ·rename_i t s lo hi mx
  have h:=JV (hk (.tmp s))
  split
  ·rename_i r v e
   rw[e] at h
   rw[h]
  ·rfl
 ·rfl
theorem WY {k:Operand->K} {op:Op} (hk:∀ x,∀ r ∈ (k x).res,ρ r=ρ' r):tN P ρ k op=tN P ρ' k op:=by
 unfold tN
 split
 ·split
  ·split
   ·rename_i x y _ _ _ _ _ _ r v id ty1 ys hx hy
    rw[hk x r (by rw[hx];simp[K.res])]
   ·rfl
  ·rfl
 ·split
  ·split
   ·rename_i x y _ _ _ _ _ _ r v ty1 ys hx hy
    rw[hk x r (by rw[hx];simp[K.res])]
   ·rfl
  ·rfl
 ·rfl
theorem GH {k:Operand->K} {d:Option Nat} {op:Op} (hk:∀ x,∀ r ∈ oC ρ (k x),ρ r=ρ' r) (hd:∀ r,d=some r->ρ r=ρ' r):nV P C T ρ k d op=nV P C T ρ' k d op:=by
 have h0:∀ x,∀ r ∈ (k x).res,ρ r=ρ' r:=fun x r hr=>hk x r (yT hr)
 unfold nV
 rw[ZM h0 hd,a1b h0 hd,a2q h0,a2U h0 hd,a2e h0 hd,a0k h0,WV hk hd,WY h0,WW hk]
end
def TY (ops:Array Oper) (o:Oper):Option Nat:=match o.guard with
 | some (j,_)=>(ops[j]?).bind (·.dst)
 | none=>none
def readsOf (ops:Array Oper) (o:Oper):List Nat:=tmpsOf o.op++(TY ops o).toList
theorem b0M (ρ:Nat->Res) (k:K):oC ρ (unW k)=oC ρ k:=by cases k<;>rfl
theorem QW (ρ:Nat->Res) (v:Value):oC ρ (vO v)=[]:=by unfold vO;split<;>rfl
def moveB:Op->Bool
 | .move _=>true
 | _=>false
theorem KJ {P:Program} {C:FuncId->List At->List Ctr} {T:Told} {ρ ρ':Nat->Res} {k:Operand->K} {d:Option Nat} {op:Op} (h:moveB op=true):nV P C T ρ k d op=nV P C T ρ' k d op:=by
 cases op<;>simp[moveB] at h
 rfl
def a1m (op:Op):List Nat:=if moveB op then [] else tmpsOf op
theorem a0S {B:Book} {G G':Nat->K} {ρ ρ':Nat->Res} {ops:Array Oper} {o:Oper} (hG:∀ s ∈ readsOf ops o,G s=G' s) (hρ:∀ s ∈ a1m o.op,∀ r ∈ oC ρ (G s),ρ r=ρ' r) (hd:∀ r,o.dst=some r->ρ r=ρ' r):uY B G ρ ops o=uY B G' ρ' ops o:=by
 have h1:iY (tmpsOf o.op) G=iY (tmpsOf o.op) G':=by
  funext s
  unfold iY
  split
  ·rename_i h;exact hG s (yw _ (by simpa using h))
  ·rfl
 have h2:iY (tmpsOf o.op) (unG o.op G)=iY (tmpsOf o.op) (unG o.op G'):=by
  funext s
  unfold iY
  split
  ·rename_i h;unfold unG;rw[hG s (yw _ (by simpa using h))]
  ·rfl
 have h3:(tmpsOf o.op).flatMap (fun s=>JZ o.op s (G s))=(tmpsOf o.op).flatMap (fun s=>JZ o.op s (G' s)):=by
  have:∀ l:List Nat,(∀ s ∈ l,G s=G' s)->l.flatMap (fun s=>JZ o.op s (G s))=l.flatMap (fun s=>JZ o.op s (G' s)):=by
   intro l
   induction l with
   | nil=>intro _;rfl
   | cons x l ih=>intro h;rw[List.flatMap_cons,List.flatMap_cons,h x (lg ..),ih (fun s hs=>h s (jw _ hs))]
  exact this _ (fun s hs=>hG s (yw _ hs))
 have k3:nV B.P B.C B.T ρ (opK (iY (tmpsOf o.op) G')) o.dst o.op=nV B.P B.C B.T ρ' (opK (iY (tmpsOf o.op) G')) o.dst o.op/\nV B.P B.C B.T ρ (opK (iY (tmpsOf o.op) (unG o.op G'))) o.dst o.op=nV B.P B.C B.T ρ' (opK (iY (tmpsOf o.op) (unG o.op G'))) o.dst o.op:=by
  by_cases hp:moveB o.op=true
  ·exact⟨KJ hp,KJ hp⟩
  unfold a1m at hρ
  rw[jd hp] at hρ
  have k1:∀ x,∀ r ∈ oC ρ (opK (iY (tmpsOf o.op) G') x),ρ r=ρ' r:=by
   rw[<-h1]
   intro x r hr
   cases x with
   | tmp s =>
    have hr:r ∈ oC ρ (iY (tmpsOf o.op) G s):=hr
    unfold iY at hr
    split at hr
    ·rename_i h;exact hρ s (by simpa using h) r hr
    ·cases hr
   | const v=>exfalso;have hr:r ∈ oC ρ (vO v):=hr;rw[QW] at hr;cases hr
   | func f=>cases hr
   | global g=>cases hr
  have k2:∀ x,∀ r ∈ oC ρ (opK (iY (tmpsOf o.op) (unG o.op G')) x),ρ r=ρ' r:=by
   rw[<-h2]
   intro x r hr
   cases x with
   | tmp s =>
    have hr:r ∈ oC ρ (iY (tmpsOf o.op) (unG o.op G) s):=hr
    unfold iY at hr
    split at hr
    ·rename_i h
     refine hρ s (by simpa using h) r ?_
     unfold unG at hr
     split at hr
     ·exact hr
     ·rw[<-b0M];exact hr
    ·cases hr
   | const v=>exfalso;have hr:r ∈ oC ρ (vO v):=hr;rw[QW] at hr;cases hr
   | func f=>cases hr
   | global g=>cases hr
  exact⟨GH k1 hd,GH k2 hd⟩
 have k4:a0l B ρ (opK (iY (tmpsOf o.op) (unG o.op G'))) o.dst o.op=a0l B ρ' (opK (iY (tmpsOf o.op) (unG o.op G'))) o.dst o.op:=by
  unfold a0l
  rw[k3.2]
 unfold uY
 rw[h1,h2,h3,k3.1,k4]
 cases hg:o.guard with
 | none=>rfl
 | some jb =>
  obtain⟨j,b⟩:=jb
  simp only
  cases hs:(ops[j]?).bind (·.dst) with
  | none=>rfl
  | some s =>
   have:G s=G' s:=hG s (Bh _ (by simp[TY,hg,hs]))
   simp only[this]
end
section
set_option linter.unusedSimpArgs false
set_option linter.unusedVariables false
set_option maxRecDepth 20000
def eP {α:Type} (done:Nat->Bool):Nat->List (List (Nat × α))->(Nat->α)->Nat->α
 | _,[],f=>f
 | j,u::us,f=>eP done (j+1) us (if done j then gU f u else f)
theorem xW {α:Type} {d d':Nat->Bool} {r:Nat}:∀ (us:List (List (Nat × α))) (b:Nat) (f g:Nat->α),f r=g r->(∀ j u,us[j]?=some u->r ∈ u.map (·.1)->d (b+j)=d' (b+j))->eP d b us f r=eP d' b us g r
 | [],b,f,g,h,_=>h
 | u::us,b,f,g,h,hd=>by
  simp only[eP]
  refine xW us (b+1) _ _ ?_ (fun j u' hu hr=>by have:=hd (j+1) u' hu hr;rwa [show b+(j+1)=b+1+j by omega] at this)
  by_cases hr:r ∈ u.map (·.1)
  ·have:=hd 0 u rfl hr
   rw[Nat.add_zero] at this
   rw[<-this]
   split
   ·exact sF h u
   ·exact h
  ·split<;>split<;>first
    | (rw[jJ u _ hr,jJ u _ hr];exact h)
    | (rw[jJ u _ hr];exact h)
    |exact h
theorem zQ {α:Type} {d:Nat->Bool} {r:Nat}:∀ (us:List (List (Nat × α))) (b:Nat) (f:Nat->α),(∀ j u,us[j]?=some u->r ∈ u.map (·.1)->d (b+j)=false)->eP d b us f r=f r
 | [],b,f,_=>rfl
 | u::us,b,f,hd=>by
  simp only[eP]
  rw[zQ us (b+1) _ (fun j u' hu hr=>by have:=hd (j+1) u' hu hr;rwa [show b+(j+1)=b+1+j by omega] at this)]
  by_cases hr:r ∈ u.map (·.1)
  ·have:=hd 0 u rfl hr
   rw[Nat.add_zero] at this
   rw[this];rfl
  ·split
   ·exact jJ u _ hr
   ·rfl
theorem TB {α:Type} {r:Nat}:∀ (l:List (Nat × α)) (f g:Nat->α),r ∈ l.map (·.1)->gU f l r=gU g l r
 | [],_,_,h=>by cases h
 | (q,x)::l,f,g,h=>by
  simp only[gU]
  by_cases hr:r ∈ l.map (·.1)
  ·exact TB l _ _ hr
  ·rw[jJ l _ hr,jJ l _ hr]
   have:r=q:=by
    rcases qp.1 h with h|h
    ·exact h
    ·exact absurd h hr
   subst this
   rw[aC,aC]
theorem CU {α:Type} {d d':Nat->Bool} {u:List (Nat × α)}:∀ (us:List (List (Nat × α))) (b i:Nat) (f:Nat->α),us[i]?=some u->d (b+i)=false->d' (b+i)=true->(∀ j,j≠b+i->d' j=d j)->(∀ r ∈ u.map (·.1),∀ j v,us[j]?=some v->i<j->r ∈ v.map (·.1)->d (b+j)=false)->eP d' b us f=gU (eP d b us f) u
 | v::us,b,0,f,hi,hd,hd',he,hn=>by
  simp only[List.getElem?_cons_zero,aj] at hi
  subst hi
  simp only[Nat.add_zero] at hd hd' he
  simp only[eP,hd,hd',Di,zy,if_false]
  funext r
  have h1:eP d' (b+1) us (gU f v) r=eP d (b+1) us (gU f v) r:=xW us (b+1) _ _ rfl (fun j u' hu hr=>he _ (by omega))
  rw[h1]
  by_cases hr:r ∈ v.map (·.1)
  ·rw[zQ us (b+1) _ (fun j u' hu hr'=>by have:=hn r hr (j+1) u' hu (by omega) hr';rwa [show b+(j+1)=b+1+j by omega] at this)]
   exact TB v _ _ hr
  ·rw[jJ v _ hr]
   exact xW us (b+1) _ _ (jJ v _ hr) (fun j u' hu hr=>rfl)
 | v::us,b,i+1,f,hi,hd,hd',he,hn=>by
  simp only[eP]
  have:(if d' b=true then gU f v else f)=(if d b=true then gU f v else f):=by rw[he b (by omega)]
  rw[this]
  exact CU us (b+1) i _ hi (by rwa [show b+1+i=b+(i+1) by omega]) (by rwa [show b+1+i=b+(i+1) by omega]) (fun j hj=>he j (by omega)) (fun r hr j v' hv hlt hr'=>by
   have:=hn r hr (j+1) v' hv (by omega) hr'
   rwa [show b+(j+1)=b+1+j by omega] at this)
 | [],b,i,f,hi,hd,hd',he,hn=>by simp at hi
theorem IV {α:Type} {d:Nat->Bool}:∀ (us:List (List (Nat × α))) (b:Nat) (f:Nat->α),(∀ j,j<us.length->d (b+j)=true)->eP d b us f=us.foldl gU f
 | [],b,f,h=>rfl
 | u::us,b,f,h=>by
  have h0:=h 0 (by simp)
  rw[Nat.add_zero] at h0
  simp only[eP,h0,Di,List.foldl_cons]
  exact IV us (b+1) _ (fun j hj=>by have:=h (j+1) (by simpa using hj);rwa [show b+(j+1)=b+1+j by omega] at this)
structure Sim where
 k:K
 l:List (Nat × Res)
 touch:List Nat
def wL (B:Book) (ops:Array Oper):List Oper->Gam->Rho->Option (List Cd × List Sim × Gam × Rho)
 | [],G,R=>some ([],[],G,R)
 | o::rest,G,R=>match uY B (aT G) (aK R) ops o with
  | some (vc,k,l)=>match wL B ops rest (b2B o.dst k G) (aft R l) with
   | some (vc',ss,G',R')=>some (vc++vc',⟨k,l,(a1m o.op).flatMap (fun s=>oC (aK R) (aT G s))++o.dst.toList++l.map (·.1)⟩::ss,G',R')
   | none=>none
  | none=>none
def isDst (o:Oper) (l:List Nat):Bool:=match o.dst with
 | some s=>l.contains s
 | none=>false
def YM (o o':Oper):Bool:=match o.dst,o'.dst with
 | some s,some s'=>s==s'
 | _,_=>false
def clash (ops:Array Oper) (o o':Oper) (s s':Sim):Bool:=isDst o (readsOf ops o') || isDst o' (readsOf ops o) || s.l.any (fun q=>s'.touch.contains q.1) || s'.l.any (fun q=>s.touch.contains q.1)
def a2i (ops:Array Oper) (b:Array Nat) (ss:List Sim):Bool:=(List.range ops.size).all fun j=>match ops[j]?,ss[j]? with
 | some o',some s'=>(List.range j).all fun i=>match ops[i]?,ss[i]? with
  | some o,some s=>!YM o o'&&(!clash ops o o' s s' || (b.getD j 0).testBit i)
  | _,_=>false
 | _,_=>false
def a9e (ops:Array Oper) (b:Array Nat):Bool:=(List.range ops.size).all fun j=>match ops[j]? with
 | some o=>(List.range j).all fun i=>!(b.getD j 0).testBit i || o.after.any fun e=>Region.binds .any e&&(e.on==i || (decide (e.on<j)&&decide (i<e.on)&&(b.getD e.on 0).testBit i))
 | none=>false
def LG (ops:Array Oper) (L:Array Bool):Prop:=∀ j o,ops[j]?=some o->L.getD j false=true->∀ e ∈ o.after,Region.binds .any e=true->L.getD e.on false=true
theorem QK {ops:Array Oper} {b:Array Nat} (h:a9e ops b=true) {L:Array Bool} (hc:LG ops L):∀ (j:Nat) (o:Oper) (i:Nat),ops[j]?=some o->i<j->(b.getD j 0).testBit i=true->(∀ e ∈ o.after,Region.binds .any e=true->L.getD e.on false=true)->L.getD i false=true:=by
 intro j
 induction j using Nat.strongRecOn with
 | _ j ih =>
  intro o i ho hij hb hd
  have hj:j<ops.size:=(Ag.1 ho).1
  have h1:=(Bv.1 h) j (uj.2 hj)
  rw[ho] at h1
  have h2:=(Bv.1 h1) i (uj.2 hij)
  rw[hb] at h2
  simp only[Bool.not_true,Bool.false_or,Array.any_eq_true'] at h2
  obtain⟨e,he,h3⟩:=h2
  simp only[au,je,jf,ak] at h3
  obtain⟨h4,h5⟩:=h3
  have hdone:=hd e he h4
  rcases h5 with h5|⟨⟨h5,hie⟩,h6⟩
  ·rw[<-h5];exact hdone
  ·have ho':ops[e.on]?=some ops[e.on]:=Ak (by omega)
   exact ih e.on h5 _ i ho' hie h6 (hc e.on _ ho' hdone)
theorem KG {α:Type} {d:Nat->Bool}:∀ (us:List (List (Nat × α))) (b:Nat) (f:Nat->α),eP d (b+1) us f=eP (fun j=>d (j+1)) b us f
 | [],b,f=>rfl
 | u::us,b,f=>by simp only[eP];exact KG us (b+1) _
def BD (l:List Oper) (ss:List Sim):List (List (Nat × K)):=List.zipWith (fun o s=>YT o.dst s.k) l ss
def yK (ss:List Sim):List (List (Nat × Res)):=ss.map (·.l)
theorem VI {B:Book} {ops:Array Oper}:∀ {l:List Oper} {G:Gam} {R:Rho} {vc:List Cd} {ss:List Sim} {G':Gam} {R':Rho},wL B ops l G R=some (vc,ss,G',R') ->
  ss.length=l.length/\aT G'=(BD l ss).foldl gU (aT G)/\aK R'=(yK ss).foldl gU (aK R) /\
  ∀ i o,l[i]?=some o->∃ s vi,ss[i]?=some s/\(dK vc->dK vi)/\uY B (eP (fun j=>decide (j<i)) 0 (BD l ss) (aT G)) (eP (fun j=>decide (j<i)) 0 (yK ss) (aK R)) ops o=some (vi,s.k,s.l) /\
   s.touch=(a1m o.op).flatMap (fun q=>oC (eP (fun j=>decide (j<i)) 0 (yK ss) (aK R)) (eP (fun j=>decide (j<i)) 0 (BD l ss) (aT G) q))++o.dst.toList++s.l.map (·.1)
 | [],G,R,vc,ss,G',R',h=>by
  simp only[wL,aj,bf] at h
  obtain⟨_,rfl,rfl,rfl⟩:=h
  exact⟨rfl,rfl,rfl,fun i o hi=>by simp at hi⟩
 | o::rest,G,R,vc,ss,G',R',h=>by
  simp only[wL] at h
  split at h<;>try(cases h;done)
  rename_i vc1 k l1 h1
  split at h<;>try(cases h;done)
  rename_i vc2 ss2 G2 R2 h2
  simp only[aj,bf] at h
  obtain⟨rfl,rfl,rfl,rfl⟩:=h
  obtain⟨k1,k2,k3,k4⟩:=VI h2
  rw[uS] at k2 k4
  rw[nM,pJ] at k3 k4
  refine⟨by simp[k1],k2,k3,fun i o' hi=>?_⟩
  cases i with
  | zero =>
   simp only[List.getElem?_cons_zero,aj] at hi
   subst hi
   have e1:∀ {α:Type} (us:List (List (Nat × α))) (f:Nat->α),eP (fun j=>decide (j<0)) 0 us f=f:=fun us f=>by
    funext r
    exact zQ us 0 f (fun j u _ _=>by simp)
   exact⟨_,vc1,rfl,fun hv=>(bY.1 hv).1,by rw[e1,e1];exact h1,by rw[e1,e1]⟩
  | succ i =>
   obtain⟨s,vi,j1,j2,j3,j4⟩:=k4 i o' (by simpa using hi)
   have e1:∀ {α:Type} (u:List (Nat × α)) (us:List (List (Nat × α))) (f:Nat->α),eP (fun j=>decide (j<i+1)) 0 (u::us) f=eP (fun j=>decide (j<i)) 0 us (gU f u):=fun u us f=>by
    simp only[eP]
    rw[jl (by simp),KG]
    congr 1
    funext j
    simp
   refine⟨s,vi,by simpa using j1,fun hv=>j2 (bY.1 hv).2,?_,?_⟩
   ·show uY B (eP _ 0 (YT o.dst k::BD rest ss2) (aT G)) (eP _ 0 (l1::yK ss2) (aK R)) ops o'=_
    rw[e1,e1];exact j3
   ·show s.touch=(a1m o'.op).flatMap (fun q=>oC (eP _ 0 (l1::yK ss2) (aK R)) (eP _ 0 (YT o.dst k::BD rest ss2) (aT G) q))++_++_
    rw[e1,e1];exact j4
theorem a3L {l:List Oper} {ss:List Sim} {j:Nat} {u:List (Nat × K)} (h:(BD l ss)[j]?=some u):∃ o s,l[j]?=some o/\ss[j]?=some s/\u=YT o.dst s.k:=by
 unfold BD at h
 rw[List.getElem?_zipWith] at h
 cases h1:l[j]? with
 | none=>rw[h1] at h;cases h
 | some o =>
  cases h2:ss[j]? with
  | none=>rw[h1,h2] at h;cases h
  | some s=>rw[h1,h2] at h;simp at h;exact⟨o,s,rfl,rfl,h.symm⟩
theorem a3P {ss:List Sim} {j:Nat} {u:List (Nat × Res)} (h:(yK ss)[j]?=some u):∃ s,ss[j]?=some s/\u=s.l:=by
 unfold yK at h
 rw[uf] at h
 cases h2:ss[j]? with
 | none=>rw[h2] at h;cases h
 | some s=>rw[h2] at h;simp at h;exact⟨s,rfl,h.symm⟩
theorem RS {d:Option Nat} {k:K} {r:Nat} (h:r ∈ (YT d k).map (·.1)):d=some r:=by
 cases d with
 | none=>cases h
 | some s=>simp[YT] at h;rw[h]
theorem a0y {o:Oper} {l:List Nat} {s:Nat} (h:o.dst=some s) (hs:s ∈ l):isDst o l=true:=by simp[isDst,h,hs]
theorem WO {l:List (Nat × Res)} {t:List Nat} {r:Nat} (h:r ∈ l.map (·.1)) (ht:r ∈ t):l.any (fun q=>t.contains q.1)=true:=by
 obtain⟨q,hq,rfl⟩:=qm.1 h
 exact List.any_eq_true.2 ⟨q,hq,by simpa using ht⟩
theorem yN {ops:Array Oper} {b:Array Nat} {ss:List Sim} (h:a2i ops b ss=true) {i j:Nat} {o o':Oper} {s s':Sim} (hij:i<j) (hi:ops[i]?=some o) (hj:ops[j]?=some o') (hs:ss[i]?=some s) (hs':ss[j]?=some s'):YM o o'=false/\(clash ops o o' s s'=true->(b.getD j 0).testBit i=true):=by
 have hjl:j<ops.size:=(Ag.1 hj).1
 have h1:=(Bv.1 h) j (uj.2 hjl)
 rw[hj,hs'] at h1
 have h2:=(Bv.1 h1) i (uj.2 hij)
 rw[hi,hs] at h2
 simp only[au,gy,je] at h2
 refine⟨h2.1,fun hc=>?_⟩
 rcases h2.2 with h3|h3
 ·rw[hc] at h3;cases h3
 ·exact h3
theorem a3h {ops:Array Oper} {o o':Oper} {s s':Sim} (h:s.l.any (fun q=>s'.touch.contains q.1)=true):clash ops o o' s s'=true:=by unfold clash;rw[h];simp
theorem b1c {ops:Array Oper} {o o':Oper} {s s':Sim} (h:s'.l.any (fun q=>s.touch.contains q.1)=true):clash ops o o' s s'=true:=by unfold clash;rw[h];simp
section
variable {B:Book} {W:World}
theorem a4W (hB:B.Ok) (hm:B.P.follows .mixedOrders=true) {id:Nat} {ops:Array Oper} {b:Array Nat} {Q:Exit->Act->World->Prop} {G:Gam} {R:Rho} {E:Env} {w:World} {a:Act} {vc:List Cd} {ss:List Sim} {G':Gam} {R':Rho}
  (h:wL B ops ops.toList G R=some (vc,ss,G',R')) (hd:qP .any ops=true) (ho:a2i ops b ss=true) (hn:a9e ops b=true) (hv:dK vc) (hM:Mem E (aK R) W w) (hf:Fits E (aK R) w B a (aT G))
  (hq:∀ E' a' w',E'.fix=E.fix->Mem E' (aK R') W w'->Fits E' (aK R') w' B a' (aT G')->Q .normal a' w'):(Code.region id ops true).wp B.P Q a w:=by
 obtain⟨hlen,hG',hR',hat⟩:=VI h
 have hlen':ss.length=ops.size:=by simpa using hlen
 refine wp_region_any hm ?_
 refine a6y (fun L a w=>L.size=ops.size/\LG ops L/\∃ E',E'.fix=E.fix/\Mem E' (eP (fun j=>L.getD j false) 0 (yK ss) (aK R)) W w/\Fits E' (eP (fun j=>L.getD j false) 0 (yK ss) (aK R)) w B a (eP (fun j=>L.getD j false) 0 (BD ops.toList ss) (aT G))) hd ?_ ?_ _ _ _ _ (by rw[RP];exact ay _) ?_
 ·rintro L a w ⟨hL,_,E9,m0,m1,m2⟩ hall
  have hdone:∀ j,j<ops.size->L.getD j false=true:=fun j hj=>vS hL hj (hall j hj)
  have e1:eP (fun j=>L.getD j false) 0 (yK ss) (aK R)=aK R':=by
   rw[hR']
   exact IV _ 0 _ (fun j hj=>by rw[tu];exact hdone j (by simpa [yK,hlen'] using hj))
  have e2:eP (fun j=>L.getD j false) 0 (BD ops.toList ss) (aT G)=aT G':=by
   rw[hG']
   exact IV _ 0 _ (fun j hj=>by rw[tu];exact hdone j (by simp[BD,hlen'] at hj;exact hj))
  rw[e1] at m1 m2
  rw[e2] at m2
  exact hq E9 a w m0 m1 m2
 ·rintro L a w i o ⟨hL,hC,E9,m0,m1,m2⟩ hio hl nN
  obtain⟨s,vi,hs,hvi,hone,a7Z⟩:=hat i o (by simpa using hio)
  have hi:i<ops.size:=(Ag.1 hio).1
  have hif:L.getD i false=false:=BK hl
  have a3H:∀ j oj sj,j<i->ops[j]?=some oj->ss[j]?=some sj->clash ops oj o sj s=true->L.getD j false=true:=fun j oj sj hji hoj hsj hcl =>
   QK hn hC i o j hio hji ((yN ho hji hoj hio hsj hs).2 hcl) nN
  have XK:∀ j oj sj,i<j->ops[j]?=some oj->ss[j]?=some sj->clash ops o oj s sj=true->L.getD j false=false:=fun j oj sj hij hoj hsj hcl=>by
   cases hjd:L.getD j false with
   | false=>rfl
   | true =>
    have:=QK hn hC j oj i hoj hij ((yN ho hij hio hoj hs hsj).2 hcl) (hC j oj hoj hjd)
    rw[this] at hif;cases hif
  have b4S:∀ q ∈ readsOf ops o,eP (fun j=>decide (j<i)) 0 (BD ops.toList ss) (aT G) q=eP (fun j=>L.getD j false) 0 (BD ops.toList ss) (aT G) q:=fun q hq=>xW _ 0 _ _ rfl (fun j u hu hr=>by
   obtain⟨oj,sj,h1,h2,rfl⟩:=a3L hu
   have hdj:=RS hr
   have h1':ops[j]?=some oj:=by simpa using h1
   rw[tu]
   by_cases hji:j<i
   ·simp only[hji,decide_true]
    exact(a3H j oj sj hji h1' h2 (by simp[clash,a0y hdj hq])).symm
   ·simp only[hji,decide_false]
    by_cases e:j=i
    ·rw[e];exact hif.symm
    ·exact(XK j oj sj (by omega) h1' h2 (by simp[clash,a0y hdj hq])).symm)
  have a7Y:∀ r ∈ s.touch,eP (fun j=>decide (j<i)) 0 (yK ss) (aK R) r=eP (fun j=>L.getD j false) 0 (yK ss) (aK R) r:=fun r hr=>xW _ 0 _ _ rfl (fun j u hu hr'=>by
   obtain⟨sj,h2,rfl⟩:=a3P hu
   have hjl:j<ops.size:=by rw[<-hlen'];exact(oz.1 h2).1
   have h1':ops[j]?=some ops[j]:=Ak hjl
   rw[tu]
   by_cases hji:j<i
   ·simp only[hji,decide_true]
    exact(a3H j _ sj hji h1' h2 (a3h (WO hr' hr))).symm
   ·simp only[hji,decide_false]
    by_cases e:j=i
    ·rw[e];exact hif.symm
    ·exact(XK j _ sj (by omega) h1' h2 (b1c (WO hr' hr))).symm)
  have b3N:uY B (eP (fun j=>L.getD j false) 0 (BD ops.toList ss) (aT G)) (eP (fun j=>L.getD j false) 0 (yK ss) (aK R)) ops o=some (vi,s.k,s.l):=by
   rw[<-hone]
   refine(a0S b4S (fun q hq r hr=>a7Y r ?_) (fun r hr=>a7Y r ?_)).symm
   ·rw[a7Z];exact yw _ (yw _ (zl.2 ⟨q,hq,hr⟩))
   ·rw[a7Z];exact yw _ (Bh _ (by rw[hr];simp))
  have a7W:eP (fun j=>(L.setIfInBounds i true).getD j false) 0 (yK ss) (aK R)=gU (eP (fun j=>L.getD j false) 0 (yK ss) (aK R)) s.l:=by
   refine CU _ 0 i _ (by unfold yK;rw[uf,hs];rfl) (by rw[tu];exact hif) (by rw[tu];exact tY hl) (fun j hj=>nK (by omega)) (fun r hr j v hv hij hr'=>?_)
   obtain⟨sj,h2,rfl⟩:=a3P hv
   have hjl:j<ops.size:=by rw[<-hlen'];exact(oz.1 h2).1
   have hjt:r ∈ sj.touch:=by
    obtain⟨sj',_,h3,_,_,h4⟩:=hat j ops[j] (by simp[hjl])
    rw[h2] at h3
    cases h3
    rw[h4];exact Bh _ hr'
   rw[tu]
   exact XK j _ sj hij (Ak hjl) h2 (a3h (WO hr hjt))
  have b4Q:eP (fun j=>(L.setIfInBounds i true).getD j false) 0 (BD ops.toList ss) (aT G)=gU (eP (fun j=>L.getD j false) 0 (BD ops.toList ss) (aT G)) (YT o.dst s.k):=by
   refine CU _ 0 i _ (by unfold BD;rw[List.getElem?_zipWith,hs];simp[hio]) (by rw[tu];exact hif) (by rw[tu];exact tY hl) (fun j hj=>nK (by omega)) (fun r hr j v hv hij hr'=>?_)
   obtain⟨oj,sj,h1,h2,rfl⟩:=a3L hv
   have h1':ops[j]?=some oj:=by simpa using h1
   have hd1:=RS hr
   have hd2:=RS hr'
   have:=(yN ho hij hio h1' hs h2).1
   simp[YM,hd1,hd2] at this
  have hCl:LG ops (L.setIfInBounds i true):=by
   intro j oj hoj hj e he hb'
   have hset:∀ q,L.getD q false=true->(L.setIfInBounds i true).getD q false=true:=fun q hq=>by
    by_cases e1:i=q
    ·subst e1;rw[hif] at hq;cases hq
    ·rw[nK e1];exact hq
   by_cases e1:j=i
   ·subst e1
    rw[hio] at hoj
    cases hoj
    exact hset _ (nN e he hb')
   ·rw[nK (fun e2=>e1 e2.symm)] at hj
    exact hset _ (hC j oj hoj hj e he hb')
  unfold wpOp
  rw[hio]
  refine a0T hB b3N (hvi hv) m1 m2 (fun v w' E' n1 n2 n3 n4=>⟨by simpa using hL,hCl,E',n2.fix.trans m0,?_,?_⟩)
  ·rw[a7W,<-pJ];exact n1
  ·rw[a7W,b4Q,<-pJ];exact m2.put n2 (UU b3N) n3 n4
 ·have hnew:∀ j,(Array.replicate ops.size false).getD j false=false:=fun j=>EK _ j
  have e1:∀ {α:Type} (us:List (List (Nat × α))) (f:Nat->α),eP (fun j=>(Array.replicate ops.size false).getD j false) 0 us f=f:=fun us f=>by
   funext r
   exact zQ us 0 f (fun j u _ _=>hnew _)
  rw[e1,e1]
  obtain⟨n1,n2⟩:=hM.grows (ji w.heap.size w).drew
  have hcl0:LG ops (Array.replicate ops.size false):=fun j o hj hj2=>by rw[hnew] at hj2;cases hj2
  exact⟨by simp,hcl0,E,rfl,n1,hf.size,hf.defers,fun s=>n2.wf _ (hf.wf s),fun s=>n2.holds _ _ (hf.wf s) (hf.holds s),hf.par⟩
end
end
end Go.Proofs.YtbkocjmmbkifjaaGreat
