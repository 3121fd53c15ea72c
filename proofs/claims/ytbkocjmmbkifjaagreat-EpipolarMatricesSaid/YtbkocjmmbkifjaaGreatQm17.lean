/-
  Lemmas for the theorem vmatrices28_holds, part 17 of 33.
-/
import Derived.Tactics
import Derived.Test.YtbkocjmmbkifjaaGreatQm16
namespace Go.Proofs.YtbkocjmmbkifjaaGreat
open Go Go.RowKit
theorem zf:type_of% @List.mem_append_left:=@List.mem_append_left
theorem Az:type_of% @List.mem_append_right:=@List.mem_append_right
theorem Bd:type_of% @List.mem_flatMap:=@List.mem_flatMap
theorem jw:type_of% @Bool.or_eq_true:=@Bool.or_eq_true
section
set_option linter.unusedSimpArgs false
set_option linter.unusedVariables false
abbrev Gam:=List (Nat × K)
abbrev Rho:=List (Nat × Res)
def aW:Gam->Nat->K
 | [],_=>.any
 | (s,k)::G,q=>if q=s then k else aW G q
def aQ:Rho->Nat->Res
 | [],_=>.none
 | (s,x)::R,q=>if q=s then x else aQ R q
def b5Z (r:Nat) (R:Rho):Rho:=R.filter fun p=>p.1 != r
theorem PV {r q:Nat} (h:q≠r):∀ (R:Rho),aQ (b5Z r R) q=aQ R q
 | []=>rfl
 | (s,x)::R=>by
  unfold b5Z
  rw[List.filter_cons]
  split
  ·simp only[aQ]
   split
   ·rfl
   ·exact PV h R
  ·rename_i hs
   have hs:s=r:=by simpa using hs
   simp only[aQ]
   rw[jq (by rw[hs];exact h)]
   exact PV h R
def aft (R:Rho):List (Nat × Res)->Rho
 | []=>R
 | q::l=>aft (q::b5Z q.1 R) l
theorem nV:∀ (l:List (Nat × Res)) (R:Rho),aQ (aft R l)=after (aQ R) l
 | [],_=>rfl
 | (r,x)::l,R=>by
  rw[aft,nV l,after]
  congr 1
  funext q
  simp only[aQ]
  unfold bF
  split
  ·rfl
  ·rename_i h;exact PV h R
def opK (G:Nat->K):Operand->K
 | .tmp s=>G s
 | .const v=>wQ v
 | .func f=>.val (.clo f .unit) ()
 | .global _=>.any
def unW:K->K
 | .when _ k=>k
 | k=>k
def a8r:K->List Cd
 | .when b _=>[b=true]
 | _=>[]
def tmpsOf (op:Op):List Nat:=op.operands.toList.filterMap fun x=>match x with
 | .tmp s=>some s
 | _=>none
def jH (ts:List Nat) (G:Nat->K) (s:Nat):K:=if ts.contains s then G s else .any
def keepW (op:Op) (s:Nat):Bool:=match op with
 | .pick (.tmp c) _ _=>c != s
 | _=>false
def unG (op:Op) (G:Nat->K) (s:Nat):K:=if keepW op s then G s else unW (G s)
def KY (op:Op) (s:Nat) (k:K):List Cd:=if keepW op s then [] else a8r k
structure Book where
 P:Program
 C:FuncId->List At->List Ctr
 T:Told
 N:Nat
 keep:Nat->Bool
def Book.Ok (B:Book):Prop:=(∀ g ts,∀ c ∈ B.C g ts,aS B.P g c)/\∀ g ts,∀ c ∈ B.T.nc g ts,NOk B.P g c
def eqb (c b:Bool):Bool:=c==b
def a8u (B:Book):Option Nat->Bool
 | some d=>decide (d<B.N)&&!B.keep d
 | none=>true
def a8M (g:Bool):List Cd->List Cd
 | []=>[]
 | p::ps=>[g=true->dP (p::ps)]
theorem a6F {g:Bool} {l:List Cd} (h:dP (a8M g l)) (hg:g=true):dP l:=by
 cases l with
 | nil=>trivial
 | cons p ps=>exact h.1 hg
def gdK (b:Bool):K->Option Bool
 | .val .bool c=>some (eqb c b)
 | .when r (.val .bool c)=>some (r&&eqb c b)
 | _=>none
def a1r (B:Book) (ρ:Nat->Res) (k:Operand->K) (d:Option Nat) (op:Op):MK:=match gOp B.P B.T k op with
 | some (vc,kk)=>some (vc,kk,[])
 | none=>oG B.P B.C B.T ρ k d op
def wB (B:Book) (G:Nat->K) (ρ:Nat->Res) (ops:Array Oper) (o:Oper):MK:=if a8u B o.dst then (match o.guard with
 | none=>oG B.P B.C B.T ρ (opK (jH (tmpsOf o.op) G)) o.dst o.op
 | some (j,b)=>match (ops[j]?).bind (·.dst) with
  | some s=>match gdK b (G s) with
   | some g=>match a1r B ρ (opK (jH (tmpsOf o.op) (unG o.op G))) o.dst o.op with
    | some (vc,k,[])=>some (a8M g ((tmpsOf o.op).flatMap (fun s=>KY o.op s (G s))++vc),.when g k,[])
    | _=>none
   | none=>none
  | none=>none) else none
def a0B (d:Option Nat) (k:K):List (Nat × K):=match d with
 | some d=>[(d,k)]
 | none=>[]
def iI {α:Type} (f:Nat->α):List (Nat × α)->Nat->α
 | []=>f
 | (r,x)::l=>iI (bF f r x) l
theorem qA:∀ (l:List (Nat × Res)) (ρ:Nat->Res),after ρ l=iI ρ l
 | [],_=>rfl
 | (_,_)::l,_=>qA l _
def b3o (d:Option Nat) (k:K) (G:Gam):Gam:=match d with
 | some d=>(d,k)::G
 | none=>G
theorem vW (G:Gam) (d:Option Nat) (k:K):aW (b3o d k G)=iI (aW G) (a0B d k):=by
 cases d with
 | none=>rfl
 | some d =>
  funext q
  show aW ((d,k)::G) q=bF (aW G) d k q
  simp only[aW]
  unfold bF
  split
  ·rfl
  ·rfl
structure Fits (E:Env) (ρ:Nat->Res) (w:World) (B:Book) (a:Act) (G:Nat->K):Prop where
 size:a.tmps.size=B.N
 defers:a.defers=[]
 wf:∀ s,(G s).wf ρ
 holds:∀ s,(G s).holds E ρ w (a.eval (.tmp s))
 par:∀ s,B.keep s=true->a.eval (.tmp s)=E.par s
section
variable {B:Book} {E:Env} {ρ:Nat->Res} {W w:World} {G:Nat->K} {a:Act}
theorem b0t {c:Bool} {ka kb k:K} {vc:List Cd} (h:kM c ka kb=some (vc,k)):k.wf ρ:=by
 cases ka<;>try (simp[kM] at h;done)
 case val t x =>
  cases kb<;>try (simp[kM] at h;done)
  case val t' y =>
   simp only[kM,jd,bf] at h
   obtain⟨y',h1,rfl,rfl⟩:=h
   trivial
  case when b kb =>
   cases kb<;>try (simp[kM] at h;done)
   case val t' y =>
    simp only[kM,jd,bf] at h
    obtain⟨y',h1,rfl,rfl⟩:=h
    trivial
 case when b ka =>
  cases ka<;>try (simp[kM] at h;done)
  case val t x =>
   cases kb<;>try (simp[kM] at h;done)
   case val t' y =>
    simp only[kM,jd,bf] at h
    obtain⟨y',h1,rfl,rfl⟩:=h
    trivial
   case when b' kb =>
    cases kb<;>try (simp[kM] at h;done)
    case val t' y =>
     simp only[kM,jd,bf] at h
     obtain⟨y',h1,rfl,rfl⟩:=h
     trivial
def K.isVal:K->Bool
 | .val _ _=>true
 | _=>false
theorem FU {k:K} (h:k.isVal=true):k.wf ρ:=by cases k<;>simp_all [K.isVal];trivial
theorem a9l {op:BinOp} {k:IntKind} {a b:Int} {vc:List Cd} {kk:K} (h:a9k op k a b=some (vc,kk)):kk.isVal=true:=by
 cases op<;>simp only[a9k,ah,bf] at h<;>first|(cases h;done)|(obtain⟨_,rfl⟩:=h;rfl)
theorem b2n {op:BinOp} {a b:Bool} {vc:List Cd} {kk:K} (h:eqB op a b=some (vc,kk)):kk.isVal=true:=by
 cases op<;>simp only[eqB,ah,bf] at h<;>first|(cases h;done)|(obtain⟨_,rfl⟩:=h;rfl)
theorem PG {r:Bool} {P:Program} {s:TypeId} {i:Nat} {ty:Ty} {y:ty.den} {vc:List Cd} {kk:K} (h:yX r P s i ty y=some (vc,kk)):kk.isVal=true:=by
 unfold yX at h
 split at h<;>try(cases h;done)
 split at h<;>try(cases h;done)
 simp only[ah,bf] at h
 obtain⟨_,rfl⟩:=h
 cases r<;>rfl
theorem WJ {P:Program} {k:Operand->K} {op:Op} {vc:List Cd} {kk:K} (h:eX P k op=some (vc,kk)) (hw:∀ x,(k x).wf ρ):kk.wf ρ:=by
 cases op<;>try (simp[eX] at h;done)
 case move x=>simp only[eX,ah,bf] at h;rw[<-h.2];exact hw x
 case assign x=>simp only[eX,ah,bf] at h;rw[<-h.2];exact hw x
 case pick c a b =>
  simp only[eX] at h
  split at h<;>first|(cases h;done)|exact b0t h
 case call c =>
  obtain⟨cl,xs,ts⟩:=c
  cases cl<;>try (simp[eX] at h;done)
  rename_i bi
  cases bi<;>try (simp[eX] at h;done)
  simp only[eX] at h
  (repeat' split at h)<;>first|(cases h;done)|(simp only[JY,b5M,ah,bf] at h;rw[<-h.2];trivial)
 case unOp op t x =>
  cases op<;>simp only[eX] at h<;>try(cases h;done)
  all_goals (split at h<;>first|(cases h;done)|(simp only[b5Y,b5V,XJ,ah,bf] at h;rw[<-h.2];trivial))
 case binOp op t x y yt =>
  simp only[eX] at h
  split at h<;>try(cases h;done)
  ·split at h<;>first|(cases h;done)|exact FU (a9l h)
  ·split at h<;>first|(cases h;done)|exact FU (b2n h)
  ·split at h<;>first|(cases h;done)|(rename_i hb;cases op<;>simp only[b2Z,ah,bf] at h<;>first|(cases h;done)|(rw[<-h.2];trivial))
  ·split at h<;>try(cases h;done)
   split at h<;>try(cases h;done)
   cases op<;>simp only[eqS,ah,bf] at h<;>first|(cases h;done)|(rw[<-h.2];trivial)
 case extract x i =>
  simp only[eX] at h
  split at h<;>try(cases h;done)
  ·split at h<;>first|(cases h;done)|(simp only[ah,bf] at h;rw[<-h.2];trivial)
  ·rename_i ks hkx
   have hwx:=hw x
   rw[hkx] at hwx
   split at h<;>first|(cases h;done)|(simp only[ah,bf] at h;rw[<-h.2])
   rename_i e
   exact ZQ.1 (hwx _ (Ci e))
 case field s x i =>
  simp only[eX] at h
  split at h<;>first|(cases h;done)|exact FU (PG h)
 case fieldAddr s x i =>
  simp only[eX] at h
  split at h<;>first|(cases h;done)|exact FU (PG h)
 all_goals
  simp only[eX] at h
  (repeat' split at h)<;>first|(cases h;done)|(simp only[EX,a4E,b2D,XJ,ah,bf] at h;rw[<-h.2];trivial)
theorem a6t (v:Value):(wQ v).wf ρ:=by unfold wQ;split<;>trivial
theorem FZ (hf:Fits E ρ w B a G):(∀ x,(opK G x).wf ρ)/\∀ x,(opK G x).holds E ρ w (a.eval x):=by
 constructor
 ·intro x
  cases x with
  | tmp s=>exact hf.wf s
  | const v=>exact a6t v
  | func f=>trivial
  | global g=>trivial
 ·intro x
  cases x with
  | tmp s=>exact hf.holds s
  | const v=>exact a6s v
  | func f=>exact⟨[.func (.func f) #[] #[]],rfl,[],rfl,rfl⟩
  | global g=>trivial
theorem Fits.put {E':Env} {ρ':Nat->Res} {w':World} {o:Oper} {k:K} {v:Value} (hf:Fits E ρ w B a G) (hx:Ext E ρ w E' ρ' w') (hd:a8u B o.dst=true) (hw:k.wf ρ') (hk:k.holds E' ρ' w' v):Fits E' ρ' w' B (a.put o.dst v) (iI G (a0B o.dst k)):=by
 cases hod:o.dst with
 | none=>exact⟨hf.size,hf.defers,fun s=>hx.wf _ (hf.wf s),fun s=>hx.holds _ _ (hf.wf s) (hf.holds s),fun s hs=>by rw[hx.par];exact hf.par s hs⟩
 | some d =>
  rw[hod] at hd
  have hd:d<B.N/\B.keep d=false:=by simpa [a8u] using hd
  obtain⟨hd,hkd⟩:=hd
  refine⟨by simpa [Act.put] using hf.size,hf.defers,fun s=>?_,fun s=>?_,fun s hs=>?_⟩
  ·show K.wf ρ' (bF G d k s)
   unfold bF
   split
   ·exact hw
   ·exact hx.wf _ (hf.wf s)
  ·show K.holds E' ρ' w' (bF G d k s) _
   unfold bF
   split
   ·rename_i e
    subst e
    have:(a.put (some s) v).eval (.tmp s)=v:=by
     have hs9:=hf.size
     have hs8:s<a.tmps.size:=by rw[hs9];exact hd
     simp[Act.put,Act.eval,og,hs8]
    rw[this];exact hk
   ·rename_i e
    have:(a.put (some d) v).eval (.tmp s)=a.eval (.tmp s):=by
     simp[Act.put,Act.eval,og,Array.getElem?_setIfInBounds,show ¬ d=s from fun e'=>e e'.symm]
    rw[this];exact hx.holds _ _ (hf.wf s) (hf.holds s)
  ·have e:¬ d=s:=fun e=>by subst e;rw[hkd] at hs;cases hs
   have:(a.put (some d) v).eval (.tmp s)=a.eval (.tmp s):=by
    simp[Act.put,Act.eval,og,Array.getElem?_setIfInBounds,e]
   rw[this,hx.par];exact hf.par s hs
theorem b9t {k:K} (h:k.wf ρ) (hc:dP (a8r k)):(unW k).wf ρ:=by cases k<;>first|exact h|exact h hc.1
theorem a7D {k:K} {v:Value} (h:k.holds E ρ w v) (hc:dP (a8r k)):(unW k).holds E ρ w v:=by cases k<;>first|exact h|exact h.1 hc.1
theorem rO {α:Type _} {f:α->List Cd}:∀ {l:List α} {s:α},dP (l.flatMap f)->s ∈ l->dP (f s)
 | x::l,s,h,hs=>by
  rw[List.flatMap_cons] at h
  obtain⟨h1,h2⟩:=dF.1 h
  rcases qm.1 hs with rfl|hs
  ·exact h1
  ·exact rO h2 hs
theorem a7a {ts:List Nat} (hf:Fits E ρ w B a G):Fits E ρ w B a (jH ts G):=by
 refine⟨hf.size,hf.defers,fun s=>?_,fun s=>?_,hf.par⟩
 ·unfold jH;split
  ·exact hf.wf s
  ·trivial
 ·unfold jH;split
  ·exact hf.holds s
  ·trivial
theorem a3l {ts:List Nat} {op:Op} (hf:Fits E ρ w B a G) (hc:dP (ts.flatMap fun s=>KY op s (G s))):Fits E ρ w B a (jH ts (unG op G)):=by
 refine⟨hf.size,hf.defers,fun s=>?_,fun s=>?_,hf.par⟩
 ·unfold jH;split
  ·rename_i hs
   have hc:=rO hc (show s ∈ ts by simpa using hs)
   unfold unG;unfold KY at hc
   split
   ·exact hf.wf s
   ·rename_i hk;rw[jq hk] at hc;exact b9t (hf.wf s) hc
  ·trivial
 ·unfold jH;split
  ·rename_i hs
   have hc:=rO hc (show s ∈ ts by simpa using hs)
   unfold unG;unfold KY at hc
   split
   ·exact hf.holds s
   ·rename_i hk;rw[jq hk] at hc;exact a7D (hf.holds s) hc
  ·trivial
theorem a1X (hB:B.Ok) {ops:Array Oper} {o:Oper} {vc:List Cd} {kk:K} {l:List (Nat × Res)} (h:wB B G ρ ops o=some (vc,kk,l)) (hv:dP vc) (hM:Mem E ρ W w) (hf:Fits E ρ w B a G)
  {next:Act->World->Prop} {Q:Exit->Act->World->Prop} (hn:∀ v w' E',Mem E' (after ρ l) W w'->Ext E ρ w E' (after ρ l) w'->kk.wf (after ρ l)->kk.holds E' (after ρ l) w' v->next (a.put o.dst v) w') :
  if Region.wanted o (yielded ops a.tmps) then o.wp B.P a w next Q\/(o.asks B.P a w/\LetsOut Q) else next (a.put o.dst undef) w:=by
 unfold wB at h
 split at h<;>try(cases h;done)
 rename_i hd
 cases hg:o.guard with
 | none =>
  simp only[hg] at h
  obtain⟨h1,h2⟩:=FZ (a7a (ts:=tmpsOf o.op) hf)
  have hw:Region.wanted o (yielded ops a.tmps)=true:=by simp[Region.wanted,hg]
  rw[jv hw]
  exact .inl (WZ hB.1 hB.2 h hv hM h1 h2 (fun vc' kk' hp=>WJ hp h1) next Q hn)
 | some jb =>
  obtain⟨j,b⟩:=jb
  simp only[hg] at h
  split at h<;>try(cases h;done)
  rename_i s hs
  split at h<;>try(cases h;done)
  rename_i g hks
  split at h<;>try(cases h;done)
  rename_i vc1 k1 hst
  simp only[ah,bf] at h
  obtain⟨rfl,rfl,rfl⟩:=h
  have hwn:Region.wanted o (yielded ops a.tmps)=g:=by
   have hsv:=hf.holds s
   have hv1:∀ c:Bool,a.tmps.getD s undef=.bool c->Region.wanted o (yielded ops a.tmps)=eqb c b:=fun c h1=>by
    have ht:a.tmps[s]?=some (.bool c):=by
     rw[og] at h1
     cases h2:a.tmps[s]? with
     | none=>rw[h2] at h1;cases h1
     | some v=>rw[h2] at h1;exact yj some h1
    simp[Region.wanted,hg,yielded,hs,ht]
    rfl
   have hv2:a.tmps.getD s undef=undef->Region.wanted o (yielded ops a.tmps)=false:=fun h1=>by
    rw[og] at h1
    cases h2:a.tmps[s]? with
    | none=>simp[Region.wanted,hg,yielded,hs,h2]
    | some v =>
     rw[h2] at h1
     have h1:v=undef:=h1
     subst h1
     simp[Region.wanted,hg,yielded,hs,h2]
     try first|rfl|(intro e;cases e;done)|(simp[undef];done)|(unfold undef;simp;done)
   unfold gdK at hks
   split at hks<;>first|(cases hks;done)|skip
   ·rename_i c hk
    rw[hk] at hsv
    have hsv:=oH hsv
    simp only[ah] at hks
    rw[<-hks];exact hv1 c hsv
   ·rename_i r c hk
    rw[hk] at hsv
    simp only[ah] at hks
    rw[<-hks]
    cases r with
    | true=>have hsv:=oH (hsv.1 rfl);exact hv1 c hsv
    | false=>exact hv2 (hsv.2 rfl)
  rw[hwn]
  by_cases hcb:g=true
  ·rw[jv hcb]
   obtain⟨hv1,hv2⟩:=dF.1 (a6F hv hcb)
   obtain⟨h1,h2⟩:=FZ (a3l hf hv1)
   unfold a1r at hst
   split at hst
   ·rename_i vc2 k2 hgo
    simp only[ah,bf] at hst
    obtain⟨rfl,rfl,_⟩:=hst
    exact .inl ((b5h hgo hv2 hM h2).steps next Q (fun v w' E' m1 m2 m3 m4=>hn v w' E' m1 m2 (fun _=>m3) ⟨fun _=>m4,fun e=>by rw[hcb] at e;cases e⟩))
   ·exact .inl (WZ hB.1 hB.2 hst hv2 hM h1 h2 (fun vc' kk' hp=>WJ hp h1) next Q (fun v w' E' m1 m2 m3 m4=>hn v w' E' m1 m2 (fun _=>m3) ⟨fun _=>m4,fun e=>by rw[hcb] at e;cases e⟩))
  ·rw[jq hcb]
   exact hn undef w E hM (Ext.refl _ _ _) (fun e=>absurd e hcb) ⟨fun e=>absurd e hcb,fun _=>rfl⟩
def xK (B:Book) (ops:Array Oper):List Oper->Gam->Rho->Option (List Cd × Gam × Rho)
 | [],G,R=>some ([],G,R)
 | o::rest,G,R=>match wB B (aW G) (aQ R) ops o with
  | some (vc,k,l)=>match xK B ops rest (b3o o.dst k G) (aft R l) with
   | some (vc',G',R')=>some (vc++vc',G',R')
   | none=>none
  | none=>none
theorem WE {ops:Array Oper} {o:Oper} {x:List Cd × K × List (Nat × Res)} (h:wB B G ρ ops o=some x):a8u B o.dst=true:=by
 unfold wB at h
 split at h
 ·assumption
 ·cases h
theorem WU (hB:B.Ok) {ops:Array Oper} {Q:Exit->Act->World->Prop}:∀ {l:List Oper} {G:Gam} {R:Rho} {E:Env} {w:World} {a:Act} {vc:List Cd} {G':Gam} {R':Rho},xK B ops l G R=some (vc,G',R')->dP vc->Mem E (aQ R) W w->Fits E (aQ R) w B a (aW G) ->
  (∀ E' a' w',E'.fix=E.fix->Mem E' (aQ R') W w'->Fits E' (aQ R') w' B a' (aW G')->Q .normal a' w')->wpList B.P ops Q l a w
 | [],G,R,E,w,a,vc,G',R',h,hv,hM,hf,hq=>by
  simp only[xK,ah,bf] at h
  obtain⟨_,rfl,rfl⟩:=h
  exact hq E a w rfl hM hf
 | o::rest,G,R,E,w,a,vc,G',R',h,hv,hM,hf,hq=>by
  simp only[xK] at h
  split at h<;>try(cases h;done)
  rename_i vc1 k l1 h1
  split at h<;>try(cases h;done)
  rename_i vc2 G2 R2 h2
  simp only[ah,bf] at h
  obtain⟨rfl,rfl,rfl⟩:=h
  obtain⟨hv1,hv2⟩:=dF.1 hv
  exact a1X hB h1 hv1 hM hf (fun v w' E' m1 m2 m3 m4=>by
   rw[<-nV] at m1 m2 m3 m4
   exact WU hB h2 hv2 m1 (by rw[vW];exact hf.put m2 (WE h1) m3 m4) (fun E2 a2 w2 hb2=>hq E2 a2 w2 (hb2.trans m2.fix)))
end
end
section
set_option linter.unusedSimpArgs false
set_option linter.unusedVariables false
set_option maxRecDepth 20000
theorem a7G {P:Program} {md:Region.Mode} {ops:Array Oper} {Q:Exit->Act->World->Prop} (I:Array Bool->Act->World->Prop) (hd:rP md ops=true)
  (hend:∀ L a w,I L a w->(∀ i,i<ops.size->L.getD i true=true)->Q .normal a w)
  (hstep:∀ L a w i o,I L a w->ops[i]?=some o->L.getD i true=false->(∀ e ∈ o.after,Region.binds md e=true->L.getD e.on false=true)->wpOp P ops Q i (I (L.setIfInBounds i true)) a w) :
  ∀ fuel L a w,EH L<=fuel->I L a w->wpAny P md ops Q fuel L a w:=by
 intro fuel
 induction fuel with
 | zero =>
  intro L a w hu hI
  have hn:Region.ready md ops L=[]:=by
   cases hr:Region.ready md ops L with
   | nil=>rfl
   | cons i r =>
    exfalso
    obtain⟨o,_,h2,_⟩:=BL (by rw[hr];exact jr)
    have:=xU h2
    omega
  exact⟨hn,hend L a w hI (nK hd hn)⟩
 | succ fuel ih =>
  intro L a w hu hI
  refine⟨fun hn=>hend L a w hI (nK hd hn),fun i hi=>?_⟩
  obtain⟨o,h1,h2,h3⟩:=BL hi
  refine wpOp_mono (fun a' w' h'=>ih _ _ _ ?_ h') (hstep L a w i o hI h1 h2 h3)
  have:=xU h2
  omega
def QH:K0->List Nat
 | .val _ _=>[]
 | .own r _=>[r]
 | .ptr r _=>[r]
 | .kY r=>[r]
def K.res:K->List Nat
 | .ptr r _=>[r]
 | .own r _=>[r]
 | .when _ k=>k.res
 | .cell r _ _=>[r]
 | .mrow r _ _=>[r]
 | .mpos r _ _ _=>[r]
 | .kY r=>[r]
 | .mix ks=>ks.flatMap QH
 | .fn _ ks=>ks.flatMap QH
 | .sng r _=>[r]
 | _=>[]
def b9p:Res->List Nat
 | .kE k=>k.res
 | _=>[]
def oK (ρ:Nat->Res) (k:K):List Nat:=k.res++k.res.flatMap fun r=>b9p (ρ r)
section
variable {P:Program} {C:FuncId->List At->List Ctr} {T:Told} {ρ ρ':Nat->Res}
theorem uH {α:Type} {f g:Nat->α} {r:Nat} (h:f r=g r):∀ (l:List (Nat × α)),iI f l r=iI g l r
 | []=>h
 | (q,x)::l=>by
  simp only[iI]
  refine uH ?_ l
  unfold bF;split
  ·rfl
  ·exact h
theorem jT {α:Type} {r:Nat}:∀ (l:List (Nat × α)) (f:Nat->α),r ∉ l.map (·.1)->iI f l r=f r
 | [],_,_=>rfl
 | (q,x)::l,f,h=>by
  simp only[yc,qm,not_or] at h
  simp only[iI]
  rw[jT l _ h.2,aP _ _ h.1]
theorem KR {k:K} (h:∀ r ∈ k.res,ρ r=ρ' r):qX ρ k=qX ρ' k:=by
 cases k<;>try rfl
 ·rename_i r v
  simp only[qX,h r (by simp[K.res])]
 ·rename_i r v i
  simp only[qX,h r (by simp[K.res])]
theorem oP {k:K} {t:Option Ty} (h:∀ r ∈ k.res,ρ r=ρ' r):uY ρ t k=uY ρ' t k:=by
 cases k<;>first|rfl|exact KR h
theorem a3S {k:K} {t:Option Ty} (h:∀ r ∈ k.res,ρ r=ρ' r):a3R ρ t k=a3R ρ' t k:=by
 have:UO ρ k=UO ρ' k:=by
  cases k<;>try rfl
  ·rename_i t x;cases t<;>rfl
  ·rename_i r v
   simp only[UO,h r (by simp[K.res])]
  ·rename_i r v i
   simp only[UO,h r (by simp[K.res])]
 unfold a3R
 rw[this,oP h]
theorem KQ {t:Option Ty}:∀ {ks:List K} {ρ ρ':Nat->Res},(∀ k ∈ ks,∀ r ∈ k.res,ρ r=ρ' r)->CS ρ t ks=CS ρ' t ks
 | [],_,_,_=>rfl
 | k::ks,ρ,ρ',h=>by
  simp only[CS,oP (h k (jr ..))]
  split
  ·rename_i p l _
   rw[KQ (ρ:=after ρ l) (ρ':=after ρ' l) (fun k' hk' r hr=>by rw[qA,qA];exact uH (h k' (jk _ hk') r hr) l)]
  ·rfl
theorem yO:∀ {ts:List Ty} {ks:List K} {ρ ρ':Nat->Res},(∀ k ∈ ks,∀ r ∈ k.res,ρ r=ρ' r)->yN ρ ts ks=yN ρ' ts ks
 | [],[],_,_,_=>rfl
 | [],_::_,_,_,_=>rfl
 | _::_,[],_,_,_=>rfl
 | t::ts,k::ks,ρ,ρ',h=>by
  simp only[yN,oP (h k (jr ..))]
  split
  ·rename_i p l _
   rw[yO (ρ:=after ρ l) (ρ':=after ρ' l) (fun k' hk' r hr=>by rw[qA,qA];exact uH (h k' (jk _ hk') r hr) l)]
  ·rfl
theorem a0T {k:Operand->K} {d:Option Nat} {op:Op} (hk:∀ x,∀ r ∈ (k x).res,ρ r=ρ' r) (hd:∀ r,d=some r->ρ r=ρ' r):qC P T ρ k d op=qC P T ρ' k d op:=by
 cases op<;>try rfl
 case alloc t =>
  simp only[qC]
  split
  ·rw[hd _ (by first|assumption|rfl)]
  ·rfl
 case box t x =>
  simp only[qC,oP (hk x)]
  split
  ·rw[hd _ (by first|assumption|rfl)]
  ·rfl
 case load t x =>
  simp only[qC]
  split
  ·rename_i r o hx;rw[hk x r (by rw[hx];simp[K.res])]
  ·rfl
 case store t x y =>
  simp only[qC,oP (hk y)]
  split
  ·rename_i r o _ _ hx _;rw[hk x r (by rw[hx];simp[K.res])]
  ·rfl
 case fieldAddr s x i =>
  simp only[qC]
  split
  ·rename_i r o hx;rw[hk x r (by rw[hx];simp[K.res])]
  ·rfl
 case indexAddr s x i =>
  simp only[qC]
  split
  ·rename_i r o _ _ hx _;rw[hk x r (by rw[hx];simp[K.res])]
  ·rfl
theorem a2f {k:Operand->K} {d:Option Nat} {op:Op} (hk:∀ x,∀ r ∈ (k x).res,ρ r=ρ' r) (hd:∀ r,d=some r->ρ r=ρ' r):zW P T ρ k d op=zW P T ρ' k d op:=by
 cases op<;>try rfl
 case buildSlice t len parts =>
  simp only[zW]
  have h1:CS ρ (a1c P T t) (parts.toList.map fun q=>k q.2)=CS ρ' (a1c P T t) (parts.toList.map fun q=>k q.2):=KQ (fun k' hk' r hr=>by
   obtain⟨q,_,rfl⟩:=uj.1 hk'
   exact hk q.2 r hr)
  rw[h1]
  split
  ·split
   ·split
    ·split
     ·rw[hd _ (by first|assumption|rfl)]
     ·rfl
    ·rfl
   ·rfl
   ·rfl
  ·rfl
 case call c =>
  obtain⟨cl,xs,ts⟩:=c
  cases cl<;>try rfl
  rename_i bi
  cases bi<;>try rfl
  simp only[zW]
  split
  ·rename_i s x t t' _ _
   split
   ·simp only[a3S (hk x)]
    split
    ·rename_i r v hs;rw[hk s r (by rw[hs];simp[K.res])]
    ·split
     ·rw[hd _ (by first|assumption|rfl)]
     ·rfl
    ·rfl
   ·rfl
  ·rfl
theorem zU {k:K} {r:Nat} (h:r ∈ k.res):r ∈ oK ρ k:=zf _ h
theorem b0E {k k':K} {r q:Nat} (h:r ∈ k.res) (hr:ρ r=.kE k') (hq:q ∈ k'.res):q ∈ oK ρ k:=Az _ (Bd.2 ⟨r,h,by rw[hr];exact hq⟩)
theorem AP {k:K} {t:Option Ty} (h:∀ r ∈ k.res,ρ r=ρ' r):tY ρ t k=tY ρ' t k:=by
 cases k<;>try rfl
 ·rename_i r v
  simp only[tY,h r (by simp[K.res])]
 ·rename_i r v i
  simp only[tY,h r (by simp[K.res])]
theorem MG {k:K} {t:Option Ty} (h:∀ r ∈ oK ρ k,ρ r=ρ' r):DI ρ t k=DI ρ' t k:=by
 have h0:∀ r ∈ k.res,ρ r=ρ' r:=fun r hr=>h r (zU hr)
 cases k
 case ptr r o=>simp only[DI,h0 r (by simp[K.res])]
 case kY r =>
  simp only[DI,<-h0 r (by simp[K.res])]
  split
  ·rename_i k9 hr
   split
   ·rw[AP (ρ:=ρ) (ρ':=ρ') (fun q hq=>h q (b0E (k:=.kY r) (by simp[K.res]) hr hq))]
   ·rfl
  ·rfl
 all_goals exact AP (t:=t) h0
theorem b5H (k:K0):(k0K k).res=QH k:=by cases k<;>rfl
theorem AO:∀ {u:Ty} {ks:List K0},(∀ k ∈ ks,∀ r ∈ oK ρ (k0K k),ρ r=ρ' r)->gW ρ u ks=gW ρ' u ks
 | .unit,[],_=>rfl
 | .pair a b,k::ks,h=>by
  simp only[gW]
  rw[MG (h k (jr ..)),AO (fun k' hk'=>h k' (jk _ hk'))]
 | .unit,_::_,_=>rfl
 | .pair _ _,[],_=>rfl
 | .bool,_,_=>rfl
 | .int _,_,_=>rfl
 | .lf _,_,_=>rfl
 | .list _,_,_=>rfl
 | .arr _ _,_,_=>rfl
 | .ref _,_,_=>rfl
 | .clo _ _,_,_=>rfl
 | .nls _,_,_=>rfl
theorem a5y {g:FuncId} {ks:List K0} {k:K0} {r:Nat} (hk:k ∈ ks) (h:r ∈ oK ρ (k0K k)):r ∈ oK ρ (.fn g ks):=by
 have h1:∀ q ∈ (k0K k).res,q ∈ (K.fn g ks).res:=fun q hq=>Bd.2 ⟨k,hk,by rw[<-b5H];exact hq⟩
 rcases tu.1 h with h|h
 ·exact zU (h1 r h)
 ·obtain⟨q,hq,h⟩:=Bd.1 h
  exact Az _ (Bd.2 ⟨q,h1 q hq,h⟩)
theorem a2y {k:K} {t:Ty} (h:∀ r ∈ oK ρ k,ρ r=ρ' r):TK ρ t k=TK ρ' t k:=by
 cases k
 case fn g ks =>
  simp only[TK]
  split
  ·rw[AO (fun k hk r hr=>h r (a5y hk hr))]
  ·rfl
 all_goals exact MG (t:=some t) h
theorem tX:∀ {ts:List Ty} {ks:List K},(∀ k ∈ ks,∀ r ∈ oK ρ k,ρ r=ρ' r)->lX ρ ts ks=lX ρ' ts ks
 | [],[],_=>rfl
 | [],_::_,_=>rfl
 | _::_,[],_=>rfl
 | t::ts,k::ks,h=>by
  simp only[lX]
  rw[a2y (h k (jr ..)),tX (fun k' hk'=>h k' (jk _ hk'))]
theorem yP {ks:List K} (h:∀ k ∈ ks,∀ r ∈ oK ρ k,ρ r=ρ' r):∀ cs:List Ctr,CU ρ ks cs=CU ρ' ks cs
 | []=>rfl
 | c::cs=>by
  have e:a0P ρ c ks=a0P ρ' c ks:=by
   unfold a0P
   rw[tX h,yO (fun k hk r hr=>h k hk r (zU hr))]
  simp only[CU]
  rw[e,yP h cs]
theorem YK {k:Operand->K} {op:Op} (hk:∀ x,∀ r ∈ oK ρ (k x),ρ r=ρ' r):uZ P C ρ k op=uZ P C ρ' k op:=by
 cases op<;>try rfl
 case makeFunc fn first caps=>cases fn<;>rfl
 case call c =>
  obtain⟨cl,xs,ts⟩:=c
  cases cl<;>try rfl
  rename_i f
  simp only[uZ]
  have hcap:∀ (t:Ty) (x:t.den) (k':K),k' ∈ TN t x->k'.res=[]:=by
   intro t
   induction t with
   | pair a b _ ih =>
    intro x k' h
    rcases qm.1 h with rfl|h
    ·rfl
    ·exact ih x.2 k' h
   | _=>intro x k' h;cases h
  split
  ·rename_i g t cx hf
   rw[yP (fun k' hk' r hr=>by
    rcases tu.1 hk' with h|h
    ·obtain⟨q,_,rfl⟩:=uj.1 h;exact hk q r hr
    ·exfalso
     unfold oK at hr
     rw[hcap t cx k' h] at hr
     simp at hr)]
  ·rename_i g l hf
   rw[yP (fun k' hk' r hr=>by
    rcases tu.1 hk' with h|h
    ·obtain⟨q,_,rfl⟩:=uj.1 h;exact hk q r hr
    ·obtain⟨q,hq,rfl⟩:=uj.1 h
     exact hk f r (by rw[hf];exact a5y hq hr))]
  ·rfl
theorem a3B {k:Operand->K} {op:Op} (hk:∀ x,∀ r ∈ (k x).res,ρ r=ρ' r):KE P ρ k op=KE P ρ' k op:=by
 cases op<;>try rfl
 case indexAddr s x i =>
  simp only[KE]
  split
  ·rename_i r v _ _ hx _;rw[hk x r (by rw[hx];simp[K.res])]
  ·rename_i r v _ _ _ hx _;rw[hk x r (by rw[hx];simp[K.res])]
  ·rfl
 case load t x =>
  simp only[KE]
  split
  ·rename_i r v _ hx;rw[hk x r (by rw[hx];simp[K.res])]
  ·rename_i r v _ _ hx;rw[hk x r (by rw[hx];simp[K.res])]
  ·rename_i r hx;rw[hk x r (by rw[hx];simp[K.res])]
  ·rfl
 case call c =>
  obtain⟨cl,xs,ts⟩:=c
  cases cl<;>try rfl
  rename_i bi
  cases bi<;>try rfl
  simp only[KE]
  split
  ·rename_i x t _ _
   split
   ·split
    ·rename_i r v hx;rw[hk x r (by rw[hx];simp[K.res])]
    ·rename_i r v _ hx;rw[hk x r (by rw[hx];simp[K.res])]
    ·rfl
   ·rfl
  ·rfl
theorem a4e {k:Operand->K} {d:Option Nat} {op:Op} (hk:∀ x,∀ r ∈ (k x).res,ρ r=ρ' r) (hd:∀ r,d=some r->ρ r=ρ' r):a0H P T ρ k d op=a0H P T ρ' k d op:=by
 cases op<;>try rfl
 case store t x y =>
  have hown:ownB ρ (k y)=ownB ρ' (k y):=by
   cases hy:k y<;>try rfl
   rename_i r v
   simp only[ownB]
   rw[hk y r (by rw[hy];simp[K.res])]
  simp only[a0H,oP (hk y),hown]
  split
  ·rename_i r v i hx
   rw[hk x r (by rw[hx];simp[K.res])]
   split
   ·rfl
   ·split
    ·rfl
    ·rename_i r2 v2 hy
     rw[hk y r2 (by rw[hy];simp[K.res])]
    ·rfl
   ·rfl
  ·rename_i r v id i hx;rw[hk x r (by rw[hx];simp[K.res])]
  ·rename_i r hx;rw[hk x r (by rw[hx];simp[K.res])]
  ·rfl
 case makeSlice t n m =>
  simp only[a0H]
  split
  ·rw[hd _ (by first|assumption|rfl)]
  ·rfl
theorem a3k {k:Operand->K} {d:Option Nat} {op:Op} (hk:∀ x,∀ r ∈ (k x).res,ρ r=ρ' r) (hd:∀ r,d=some r->ρ r=ρ' r):QZ P T ρ k d op=QZ P T ρ' k d op:=by
 cases op<;>try rfl
 case buildSlice t len parts =>
  simp only[QZ]
  split<;>try rfl
  rename_i r
  split<;>try rfl
  split<;>try rfl
  split<;>try rfl
  split
  ·rw[hd _ (by first|assumption|rfl)]
  ·rename_i y _
   split
   ·rename_i r2 v2 hy;rw[hk y r2 (by rw[hy];simp[K.res])]
   ·rfl
  ·rfl
 case call c =>
  obtain⟨cl,xs,ts⟩:=c
  cases cl<;>try rfl
  rename_i bi
  cases bi<;>try rfl
  simp only[QZ]
  split
  ·rename_i s x t t' _ _
   split
   ·split
    ·rename_i r2 v2 hx
     rw[hk x r2 (by rw[hx];simp[K.res])]
     split
     ·split
      ·rename_i r v hs;rw[hk s r (by rw[hs];simp[K.res])]
      ·rw[hd _ (by first|assumption|rfl)]
      ·rfl
     ·rfl
    ·rfl
   ·rfl
  ·rfl
theorem MF {r:Nat} {row:Option Nat}:∀ {ts:List Ty} {ks:List K},(∀ k ∈ ks,∀ q ∈ k.res,ρ q=ρ' q)->IV ρ r row ts ks=IV ρ' r row ts ks
 | [],[],_=>rfl
 | [],_::_,_=>rfl
 | _::_,[],_=>rfl
 | t::ts,k::ks,h=>by
  simp only[IV]
  rw[AP (h k (jr ..)),MF (fun k' hk'=>h k' (jk _ hk'))]
theorem a1N {k:LK} {k0:K} (h:∀ q ∈ k0.res,ρ q=ρ' q):a4W ρ k k0=a4W ρ' k k0:=by
 cases k with
 | row e t =>
  cases k0<;>try rfl
  case own r v=>exact yj (NM e t r v) (h r (by simp[K.res]))
  case mrow r v i=>exact yj (NK e t r v i) (h r (by simp[K.res]))
 | mat e e2 t =>
  cases k0<;>try rfl
  case own r v=>exact yj (NJ e e2 t r v) (h r (by simp[K.res]))
theorem EO {d:Option Nat} {ks:List K} (h:∀ k ∈ ks,∀ r ∈ oK ρ k,ρ r=ρ' r) (hd:∀ r,d=some r->ρ r=ρ' r):∀ cs:List nI,yQ ρ d ks cs=yQ ρ' d ks cs
 | []=>rfl
 | c::cs=>by
  have e:DL ρ d ks c=DL ρ' d ks c:=by
   cases c with
   | mk k args pre made =>
    simp only[DL]
    split
    ·rw[hd _ (by first|assumption|rfl),tX h]
    ·rfl
   | chg k args res pre out fn =>
    cases ks with
    | nil=>rfl
    | cons k0 ks =>
     have h0:∀ k ∈ k0::ks,∀ r ∈ k.res,ρ r=ρ' r:=fun k hk r hr=>h k hk r (zU hr)
     simp only[DL]
     rw[a1N (h0 k0 (jr ..)),yO (fun k hk=>h0 k (jk _ hk))]
     simp only[MF (ρ:=ρ) (ρ':=ρ') (ks:=ks) (fun k hk=>h0 k (jk _ hk))]
  simp only[yQ]
  rw[e,EO h hd cs]
theorem YJ {k:Operand->K} {d:Option Nat} {op:Op} (hk:∀ x,∀ r ∈ oK ρ (k x),ρ r=ρ' r) (hd:∀ r,d=some r->ρ r=ρ' r):yR P T ρ k d op=yR P T ρ' k d op:=by
 cases op<;>try rfl
 case call c =>
  obtain⟨cl,xs,ts⟩:=c
  cases cl<;>try rfl
  rename_i f
  simp only[yR]
  have hcap:∀ (t:Ty) (x:t.den) (k':K),k' ∈ TN t x->k'.res=[]:=by
   intro t
   induction t with
   | pair a b _ ih =>
    intro x k' h
    rcases qm.1 h with rfl|h
    ·rfl
    ·exact ih x.2 k' h
   | _=>intro x k' h;cases h
  split
  ·split
   ·refine EO (fun k9 hk9 r hr=>?_) hd _
    rcases tu.1 hk9 with hk9|hk9
    ·obtain⟨q,_,rfl⟩:=uj.1 hk9;exact hk q r hr
    ·exfalso
     unfold oK at hr
     rw[hcap _ _ _ hk9] at hr
     simp at hr
   ·rfl
  ·rfl
theorem a1q {k:Operand->K} {op:Op} (hk:∀ x,∀ r ∈ (k x).res,ρ r=ρ' r):VE P ρ k op=VE P ρ' k op:=by
 unfold VE
 split
 ·rename_i t s lo hi mx
  have h:=KR (hk (.tmp s))
  split
  ·rename_i r v e
   rw[e] at h
   rw[h]
  ·rfl
 ·rfl
theorem YQ {k:Operand->K} {op:Op} (hk:∀ x,∀ r ∈ (k x).res,ρ r=ρ' r):vC P ρ k op=vC P ρ' k op:=by
 unfold vC
 split
 ·split
  ·split
   ·rename_i x y _ _ _ _ _ _ r v id ty1 ys hx hy
    rw[hk x r (by rw[hx];simp[K.res])]
   ·rfl
  ·rfl
 ·split
  ·split
   ·rename_i x y _ _ _ _ _ _ r v ty1 ys hx hy
    rw[hk x r (by rw[hx];simp[K.res])]
   ·rfl
  ·rfl
 ·rfl
theorem IG {k:Operand->K} {d:Option Nat} {op:Op} (hk:∀ x,∀ r ∈ oK ρ (k x),ρ r=ρ' r) (hd:∀ r,d=some r->ρ r=ρ' r):oG P C T ρ k d op=oG P C T ρ' k d op:=by
 have h0:∀ x,∀ r ∈ (k x).res,ρ r=ρ' r:=fun x r hr=>hk x r (zU hr)
 unfold oG
 rw[a0T h0 hd,a2f h0 hd,a3B h0,a4e h0 hd,a3k h0 hd,a1q h0,YJ hk hd,YQ h0,YK hk]
end
def VK (ops:Array Oper) (o:Oper):Option Nat:=match o.guard with
 | some (j,_)=>(ops[j]?).bind (·.dst)
 | none=>none
def readsOf (ops:Array Oper) (o:Oper):List Nat:=tmpsOf o.op++(VK ops o).toList
theorem b1B (ρ:Nat->Res) (k:K):oK ρ (unW k)=oK ρ k:=by cases k<;>rfl
theorem SA (ρ:Nat->Res) (v:Value):oK ρ (wQ v)=[]:=by unfold wQ;split<;>rfl
def moveB:Op->Bool
 | .move _=>true
 | _=>false
theorem LW {P:Program} {C:FuncId->List At->List Ctr} {T:Told} {ρ ρ':Nat->Res} {k:Operand->K} {d:Option Nat} {op:Op} (h:moveB op=true):oG P C T ρ k d op=oG P C T ρ' k d op:=by
 cases op<;>simp[moveB] at h
 rfl
def a2v (op:Op):List Nat:=if moveB op then [] else tmpsOf op
theorem a1W {B:Book} {G G':Nat->K} {ρ ρ':Nat->Res} {ops:Array Oper} {o:Oper} (hG:∀ s ∈ readsOf ops o,G s=G' s) (hρ:∀ s ∈ a2v o.op,∀ r ∈ oK ρ (G s),ρ r=ρ' r) (hd:∀ r,o.dst=some r->ρ r=ρ' r):wB B G ρ ops o=wB B G' ρ' ops o:=by
 have h1:jH (tmpsOf o.op) G=jH (tmpsOf o.op) G':=by
  funext s
  unfold jH
  split
  ·rename_i h;exact hG s (zf _ (by simpa using h))
  ·rfl
 have h2:jH (tmpsOf o.op) (unG o.op G)=jH (tmpsOf o.op) (unG o.op G'):=by
  funext s
  unfold jH
  split
  ·rename_i h;unfold unG;rw[hG s (zf _ (by simpa using h))]
  ·rfl
 have h3:(tmpsOf o.op).flatMap (fun s=>KY o.op s (G s))=(tmpsOf o.op).flatMap (fun s=>KY o.op s (G' s)):=by
  have:∀ l:List Nat,(∀ s ∈ l,G s=G' s)->l.flatMap (fun s=>KY o.op s (G s))=l.flatMap (fun s=>KY o.op s (G' s)):=by
   intro l
   induction l with
   | nil=>intro _;rfl
   | cons x l ih=>intro h;rw[List.flatMap_cons,List.flatMap_cons,h x (jr ..),ih (fun s hs=>h s (jk _ hs))]
  exact this _ (fun s hs=>hG s (zf _ hs))
 have k3:oG B.P B.C B.T ρ (opK (jH (tmpsOf o.op) G')) o.dst o.op=oG B.P B.C B.T ρ' (opK (jH (tmpsOf o.op) G')) o.dst o.op/\oG B.P B.C B.T ρ (opK (jH (tmpsOf o.op) (unG o.op G'))) o.dst o.op=oG B.P B.C B.T ρ' (opK (jH (tmpsOf o.op) (unG o.op G'))) o.dst o.op:=by
  by_cases hp:moveB o.op=true
  ·exact⟨LW hp,LW hp⟩
  unfold a2v at hρ
  rw[jq hp] at hρ
  have k1:∀ x,∀ r ∈ oK ρ (opK (jH (tmpsOf o.op) G') x),ρ r=ρ' r:=by
   rw[<-h1]
   intro x r hr
   cases x with
   | tmp s =>
    have hr:r ∈ oK ρ (jH (tmpsOf o.op) G s):=hr
    unfold jH at hr
    split at hr
    ·rename_i h;exact hρ s (by simpa using h) r hr
    ·cases hr
   | const v=>exfalso;have hr:r ∈ oK ρ (wQ v):=hr;rw[SA] at hr;cases hr
   | func f=>cases hr
   | global g=>cases hr
  have k2:∀ x,∀ r ∈ oK ρ (opK (jH (tmpsOf o.op) (unG o.op G')) x),ρ r=ρ' r:=by
   rw[<-h2]
   intro x r hr
   cases x with
   | tmp s =>
    have hr:r ∈ oK ρ (jH (tmpsOf o.op) (unG o.op G) s):=hr
    unfold jH at hr
    split at hr
    ·rename_i h
     refine hρ s (by simpa using h) r ?_
     unfold unG at hr
     split at hr
     ·exact hr
     ·rw[<-b1B];exact hr
    ·cases hr
   | const v=>exfalso;have hr:r ∈ oK ρ (wQ v):=hr;rw[SA] at hr;cases hr
   | func f=>cases hr
   | global g=>cases hr
  exact⟨IG k1 hd,IG k2 hd⟩
 have k4:a1r B ρ (opK (jH (tmpsOf o.op) (unG o.op G'))) o.dst o.op=a1r B ρ' (opK (jH (tmpsOf o.op) (unG o.op G'))) o.dst o.op:=by
  unfold a1r
  rw[k3.2]
 unfold wB
 rw[h1,h2,h3,k3.1,k4]
 cases hg:o.guard with
 | none=>rfl
 | some jb =>
  obtain⟨j,b⟩:=jb
  simp only
  cases hs:(ops[j]?).bind (·.dst) with
  | none=>rfl
  | some s =>
   have:G s=G' s:=hG s (Az _ (by simp[VK,hg,hs]))
   simp only[this]
end
section
set_option linter.unusedSimpArgs false
set_option linter.unusedVariables false
set_option maxRecDepth 20000
def fA {α:Type} (done:Nat->Bool):Nat->List (List (Nat × α))->(Nat->α)->Nat->α
 | _,[],f=>f
 | j,u::us,f=>fA done (j+1) us (if done j then iI f u else f)
theorem yY {α:Type} {d d':Nat->Bool} {r:Nat}:∀ (us:List (List (Nat × α))) (b:Nat) (f g:Nat->α),f r=g r->(∀ j u,us[j]?=some u->r ∈ u.map (·.1)->d (b+j)=d' (b+j))->fA d b us f r=fA d' b us g r
 | [],b,f,g,h,_=>h
 | u::us,b,f,g,h,hd=>by
  simp only[fA]
  refine yY us (b+1) _ _ ?_ (fun j u' hu hr=>by have:=hd (j+1) u' hu hr;rwa [show b+(j+1)=b+1+j by omega] at this)
  by_cases hr:r ∈ u.map (·.1)
  ·have:=hd 0 u rfl hr
   rw[Nat.add_zero] at this
   rw[<-this]
   split
   ·exact uH h u
   ·exact h
  ·split<;>split<;>first
    | (rw[jT u _ hr,jT u _ hr];exact h)
    | (rw[jT u _ hr];exact h)
    |exact h
theorem BA {α:Type} {d:Nat->Bool} {r:Nat}:∀ (us:List (List (Nat × α))) (b:Nat) (f:Nat->α),(∀ j u,us[j]?=some u->r ∈ u.map (·.1)->d (b+j)=false)->fA d b us f r=f r
 | [],b,f,_=>rfl
 | u::us,b,f,hd=>by
  simp only[fA]
  rw[BA us (b+1) _ (fun j u' hu hr=>by have:=hd (j+1) u' hu hr;rwa [show b+(j+1)=b+1+j by omega] at this)]
  by_cases hr:r ∈ u.map (·.1)
  ·have:=hd 0 u rfl hr
   rw[Nat.add_zero] at this
   rw[this];rfl
  ·split
   ·exact jT u _ hr
   ·rfl
theorem UR {α:Type} {r:Nat}:∀ (l:List (Nat × α)) (f g:Nat->α),r ∈ l.map (·.1)->iI f l r=iI g l r
 | [],_,_,h=>by cases h
 | (q,x)::l,f,g,h=>by
  simp only[iI]
  by_cases hr:r ∈ l.map (·.1)
  ·exact UR l _ _ hr
  ·rw[jT l _ hr,jT l _ hr]
   have:r=q:=by
    rcases qm.1 h with h|h
    ·exact h
    ·exact absurd h hr
   subst this
   rw[aC,aC]
theorem DT {α:Type} {d d':Nat->Bool} {u:List (Nat × α)}:∀ (us:List (List (Nat × α))) (b i:Nat) (f:Nat->α),us[i]?=some u->d (b+i)=false->d' (b+i)=true->(∀ j,j≠b+i->d' j=d j)->(∀ r ∈ u.map (·.1),∀ j v,us[j]?=some v->i<j->r ∈ v.map (·.1)->d (b+j)=false)->fA d' b us f=iI (fA d b us f) u
 | v::us,b,0,f,hi,hd,hd',he,hn=>by
  simp only[List.getElem?_cons_zero,ah] at hi
  subst hi
  simp only[Nat.add_zero] at hd hd' he
  simp only[fA,hd,hd',Dj,zi,if_false]
  funext r
  have h1:fA d' (b+1) us (iI f v) r=fA d (b+1) us (iI f v) r:=yY us (b+1) _ _ rfl (fun j u' hu hr=>he _ (by omega))
  rw[h1]
  by_cases hr:r ∈ v.map (·.1)
  ·rw[BA us (b+1) _ (fun j u' hu hr'=>by have:=hn r hr (j+1) u' hu (by omega) hr';rwa [show b+(j+1)=b+1+j by omega] at this)]
   exact UR v _ _ hr
  ·rw[jT v _ hr]
   exact yY us (b+1) _ _ (jT v _ hr) (fun j u' hu hr=>rfl)
 | v::us,b,i+1,f,hi,hd,hd',he,hn=>by
  simp only[fA]
  have:(if d' b=true then iI f v else f)=(if d b=true then iI f v else f):=by rw[he b (by omega)]
  rw[this]
  exact DT us (b+1) i _ hi (by rwa [show b+1+i=b+(i+1) by omega]) (by rwa [show b+1+i=b+(i+1) by omega]) (fun j hj=>he j (by omega)) (fun r hr j v' hv hlt hr'=>by
   have:=hn r hr (j+1) v' hv (by omega) hr'
   rwa [show b+(j+1)=b+1+j by omega] at this)
 | [],b,i,f,hi,hd,hd',he,hn=>by simp at hi
theorem JJ {α:Type} {d:Nat->Bool}:∀ (us:List (List (Nat × α))) (b:Nat) (f:Nat->α),(∀ j,j<us.length->d (b+j)=true)->fA d b us f=us.foldl iI f
 | [],b,f,h=>rfl
 | u::us,b,f,h=>by
  have h0:=h 0 (by simp)
  rw[Nat.add_zero] at h0
  simp only[fA,h0,Dj,List.foldl_cons]
  exact JJ us (b+1) _ (fun j hj=>by have:=h (j+1) (by simpa using hj);rwa [show b+(j+1)=b+1+j by omega] at this)
structure Sim where
 k:K
 l:List (Nat × Res)
 touch:List Nat
def xP (B:Book) (ops:Array Oper):List Oper->Gam->Rho->Option (List Cd × List Sim × Gam × Rho)
 | [],G,R=>some ([],[],G,R)
 | o::rest,G,R=>match wB B (aW G) (aQ R) ops o with
  | some (vc,k,l)=>match xP B ops rest (b3o o.dst k G) (aft R l) with
   | some (vc',ss,G',R')=>some (vc++vc',⟨k,l,(a2v o.op).flatMap (fun s=>oK (aQ R) (aW G s))++o.dst.toList++l.map (·.1)⟩::ss,G',R')
   | none=>none
  | none=>none
def isDst (o:Oper) (l:List Nat):Bool:=match o.dst with
 | some s=>l.contains s
 | none=>false
def a0u (o o':Oper):Bool:=match o.dst,o'.dst with
 | some s,some s'=>s==s'
 | _,_=>false
def clash (ops:Array Oper) (o o':Oper) (s s':Sim):Bool:=isDst o (readsOf ops o') || isDst o' (readsOf ops o) || s.l.any (fun q=>s'.touch.contains q.1) || s'.l.any (fun q=>s.touch.contains q.1)
def a3m (ops:Array Oper) (b:Array Nat) (ss:List Sim):Bool:=(List.range ops.size).all fun j=>match ops[j]?,ss[j]? with
 | some o',some s'=>(List.range j).all fun i=>match ops[i]?,ss[i]? with
  | some o,some s=>!a0u o o'&&(!clash ops o o' s s' || (b.getD j 0).testBit i)
  | _,_=>false
 | _,_=>false
def b0f (ops:Array Oper) (b:Array Nat):Bool:=(List.range ops.size).all fun j=>match ops[j]? with
 | some o=>(List.range j).all fun i=>!(b.getD j 0).testBit i || o.after.any fun e=>Region.binds .any e&&(e.on==i || (decide (e.on<j)&&decide (i<e.on)&&(b.getD e.on 0).testBit i))
 | none=>false
def MS (ops:Array Oper) (L:Array Bool):Prop:=∀ j o,ops[j]?=some o->L.getD j false=true->∀ e ∈ o.after,Region.binds .any e=true->L.getD e.on false=true
theorem RH {ops:Array Oper} {b:Array Nat} (h:b0f ops b=true) {L:Array Bool} (hc:MS ops L):∀ (j:Nat) (o:Oper) (i:Nat),ops[j]?=some o->i<j->(b.getD j 0).testBit i=true->(∀ e ∈ o.after,Region.binds .any e=true->L.getD e.on false=true)->L.getD i false=true:=by
 intro j
 induction j using Nat.strongRecOn with
 | _ j ih =>
  intro o i ho hij hb hd
  have hj:j<ops.size:=(zq.1 ho).1
  have h1:=(vg.1 h) j (Cb.2 hj)
  rw[ho] at h1
  have h2:=(vg.1 h1) i (Cb.2 hij)
  rw[hb] at h2
  simp only[Bool.not_true,Bool.false_or,Array.any_eq_true'] at h2
  obtain⟨e,he,h3⟩:=h2
  simp only[aj,jw,jh,ay] at h3
  obtain⟨h4,h5⟩:=h3
  have hdone:=hd e he h4
  rcases h5 with h5|⟨⟨h5,hie⟩,h6⟩
  ·rw[<-h5];exact hdone
  ·have ho':ops[e.on]?=some ops[e.on]:=Aa (by omega)
   exact ih e.on h5 _ i ho' hie h6 (hc e.on _ ho' hdone)
theorem LM {α:Type} {d:Nat->Bool}:∀ (us:List (List (Nat × α))) (b:Nat) (f:Nat->α),fA d (b+1) us f=fA (fun j=>d (j+1)) b us f
 | [],b,f=>rfl
 | u::us,b,f=>by simp only[fA];exact LM us (b+1) _
def CP (l:List Oper) (ss:List Sim):List (List (Nat × K)):=List.zipWith (fun o s=>a0B o.dst s.k) l ss
def zM (ss:List Sim):List (List (Nat × Res)):=ss.map (·.l)
theorem WX {B:Book} {ops:Array Oper}:∀ {l:List Oper} {G:Gam} {R:Rho} {vc:List Cd} {ss:List Sim} {G':Gam} {R':Rho},xP B ops l G R=some (vc,ss,G',R') ->
  ss.length=l.length/\aW G'=(CP l ss).foldl iI (aW G)/\aQ R'=(zM ss).foldl iI (aQ R) /\
  ∀ i o,l[i]?=some o->∃ s vi,ss[i]?=some s/\(dP vc->dP vi)/\wB B (fA (fun j=>decide (j<i)) 0 (CP l ss) (aW G)) (fA (fun j=>decide (j<i)) 0 (zM ss) (aQ R)) ops o=some (vi,s.k,s.l) /\
   s.touch=(a2v o.op).flatMap (fun q=>oK (fA (fun j=>decide (j<i)) 0 (zM ss) (aQ R)) (fA (fun j=>decide (j<i)) 0 (CP l ss) (aW G) q))++o.dst.toList++s.l.map (·.1)
 | [],G,R,vc,ss,G',R',h=>by
  simp only[xP,ah,bf] at h
  obtain⟨_,rfl,rfl,rfl⟩:=h
  exact⟨rfl,rfl,rfl,fun i o hi=>by simp at hi⟩
 | o::rest,G,R,vc,ss,G',R',h=>by
  simp only[xP] at h
  split at h<;>try(cases h;done)
  rename_i vc1 k l1 h1
  split at h<;>try(cases h;done)
  rename_i vc2 ss2 G2 R2 h2
  simp only[ah,bf] at h
  obtain⟨rfl,rfl,rfl,rfl⟩:=h
  obtain⟨k1,k2,k3,k4⟩:=WX h2
  rw[vW] at k2 k4
  rw[nV,qA] at k3 k4
  refine⟨by simp[k1],k2,k3,fun i o' hi=>?_⟩
  cases i with
  | zero =>
   simp only[List.getElem?_cons_zero,ah] at hi
   subst hi
   have e1:∀ {α:Type} (us:List (List (Nat × α))) (f:Nat->α),fA (fun j=>decide (j<0)) 0 us f=f:=fun us f=>by
    funext r
    exact BA us 0 f (fun j u _ _=>by simp)
   exact⟨_,vc1,rfl,fun hv=>(dF.1 hv).1,by rw[e1,e1];exact h1,by rw[e1,e1]⟩
  | succ i =>
   obtain⟨s,vi,j1,j2,j3,j4⟩:=k4 i o' (by simpa using hi)
   have e1:∀ {α:Type} (u:List (Nat × α)) (us:List (List (Nat × α))) (f:Nat->α),fA (fun j=>decide (j<i+1)) 0 (u::us) f=fA (fun j=>decide (j<i)) 0 us (iI f u):=fun u us f=>by
    simp only[fA]
    rw[jv (by simp),LM]
    congr 1
    funext j
    simp
   refine⟨s,vi,by simpa using j1,fun hv=>j2 (dF.1 hv).2,?_,?_⟩
   ·show wB B (fA _ 0 (a0B o.dst k::CP rest ss2) (aW G)) (fA _ 0 (l1::zM ss2) (aQ R)) ops o'=_
    rw[e1,e1];exact j3
   ·show s.touch=(a2v o'.op).flatMap (fun q=>oK (fA _ 0 (l1::zM ss2) (aQ R)) (fA _ 0 (a0B o.dst k::CP rest ss2) (aW G) q))++_++_
    rw[e1,e1];exact j4
theorem a4U {l:List Oper} {ss:List Sim} {j:Nat} {u:List (Nat × K)} (h:(CP l ss)[j]?=some u):∃ o s,l[j]?=some o/\ss[j]?=some s/\u=a0B o.dst s.k:=by
 unfold CP at h
 rw[List.getElem?_zipWith] at h
 cases h1:l[j]? with
 | none=>rw[h1] at h;cases h
 | some o =>
  cases h2:ss[j]? with
  | none=>rw[h1,h2] at h;cases h
  | some s=>rw[h1,h2] at h;simp at h;exact⟨o,s,rfl,rfl,h.symm⟩
theorem a4Y {ss:List Sim} {j:Nat} {u:List (Nat × Res)} (h:(zM ss)[j]?=some u):∃ s,ss[j]?=some s/\u=s.l:=by
 unfold zM at h
 rw[tq] at h
 cases h2:ss[j]? with
 | none=>rw[h2] at h;cases h
 | some s=>rw[h2] at h;simp at h;exact⟨s,rfl,h.symm⟩
theorem TF {d:Option Nat} {k:K} {r:Nat} (h:r ∈ (a0B d k).map (·.1)):d=some r:=by
 cases d with
 | none=>cases h
 | some s=>simp[a0B] at h;rw[h]
theorem a1F {o:Oper} {l:List Nat} {s:Nat} (h:o.dst=some s) (hs:s ∈ l):isDst o l=true:=by simp[isDst,h,hs]
theorem YA {l:List (Nat × Res)} {t:List Nat} {r:Nat} (h:r ∈ l.map (·.1)) (ht:r ∈ t):l.any (fun q=>t.contains q.1)=true:=by
 obtain⟨q,hq,rfl⟩:=uj.1 h
 exact List.any_eq_true.2 ⟨q,hq,by simpa using ht⟩
theorem zQ {ops:Array Oper} {b:Array Nat} {ss:List Sim} (h:a3m ops b ss=true) {i j:Nat} {o o':Oper} {s s':Sim} (hij:i<j) (hi:ops[i]?=some o) (hj:ops[j]?=some o') (hs:ss[i]?=some s) (hs':ss[j]?=some s'):a0u o o'=false/\(clash ops o o' s s'=true->(b.getD j 0).testBit i=true):=by
 have hjl:j<ops.size:=(zq.1 hj).1
 have h1:=(vg.1 h) j (Cb.2 hjl)
 rw[hj,hs'] at h1
 have h2:=(vg.1 h1) i (Cb.2 hij)
 rw[hi,hs] at h2
 simp only[aj,iw,jw] at h2
 refine⟨h2.1,fun hc=>?_⟩
 rcases h2.2 with h3|h3
 ·rw[hc] at h3;cases h3
 ·exact h3
theorem a4t {ops:Array Oper} {o o':Oper} {s s':Sim} (h:s.l.any (fun q=>s'.touch.contains q.1)=true):clash ops o o' s s'=true:=by unfold clash;rw[h];simp
theorem b2e {ops:Array Oper} {o o':Oper} {s s':Sim} (h:s'.l.any (fun q=>s.touch.contains q.1)=true):clash ops o o' s s'=true:=by unfold clash;rw[h];simp
section
variable {B:Book} {W:World}
theorem a6e (hB:B.Ok) (hm:B.P.follows .mixedOrders=true) {id:Nat} {ops:Array Oper} {b:Array Nat} {Q:Exit->Act->World->Prop} {G:Gam} {R:Rho} {E:Env} {w:World} {a:Act} {vc:List Cd} {ss:List Sim} {G':Gam} {R':Rho}
  (h:xP B ops ops.toList G R=some (vc,ss,G',R')) (hd:rP .any ops=true) (ho:a3m ops b ss=true) (hn:b0f ops b=true) (hv:dP vc) (hM:Mem E (aQ R) W w) (hf:Fits E (aQ R) w B a (aW G))
  (hq:∀ E' a' w',E'.fix=E.fix->Mem E' (aQ R') W w'->Fits E' (aQ R') w' B a' (aW G')->Q .normal a' w'):(Code.region id ops true).wp B.P Q a w:=by
 obtain⟨hlen,hG',hR',hat⟩:=WX h
 have hlen':ss.length=ops.size:=by simpa using hlen
 refine wp_region_any hm ?_
 refine a7G (fun L a w=>L.size=ops.size/\MS ops L/\∃ E',E'.fix=E.fix/\Mem E' (fA (fun j=>L.getD j false) 0 (zM ss) (aQ R)) W w/\Fits E' (fA (fun j=>L.getD j false) 0 (zM ss) (aQ R)) w B a (fA (fun j=>L.getD j false) 0 (CP ops.toList ss) (aW G))) hd ?_ ?_ _ _ _ _ (by rw[TD];exact au _) ?_
 ·rintro L a w ⟨hL,_,E9,m0,m1,m2⟩ hall
  have hdone:∀ j,j<ops.size->L.getD j false=true:=fun j hj=>wV hL hj (hall j hj)
  have e1:fA (fun j=>L.getD j false) 0 (zM ss) (aQ R)=aQ R':=by
   rw[hR']
   exact JJ _ 0 _ (fun j hj=>by rw[qp];exact hdone j (by simpa [zM,hlen'] using hj))
  have e2:fA (fun j=>L.getD j false) 0 (CP ops.toList ss) (aW G)=aW G':=by
   rw[hG']
   exact JJ _ 0 _ (fun j hj=>by rw[qp];exact hdone j (by simp[CP,hlen'] at hj;exact hj))
  rw[e1] at m1 m2
  rw[e2] at m2
  exact hq E9 a w m0 m1 m2
 ·rintro L a w i o ⟨hL,hC,E9,m0,m1,m2⟩ hio hl nX
  obtain⟨s,vi,hs,hvi,hone,a9f⟩:=hat i o (by simpa using hio)
  have hi:i<ops.size:=(zq.1 hio).1
  have hif:L.getD i false=false:=CX hl
  have a4O:∀ j oj sj,j<i->ops[j]?=some oj->ss[j]?=some sj->clash ops oj o sj s=true->L.getD j false=true:=fun j oj sj hji hoj hsj hcl =>
   RH hn hC i o j hio hji ((zQ ho hji hoj hio hsj hs).2 hcl) nX
  have ZE:∀ j oj sj,i<j->ops[j]?=some oj->ss[j]?=some sj->clash ops o oj s sj=true->L.getD j false=false:=fun j oj sj hij hoj hsj hcl=>by
   cases hjd:L.getD j false with
   | false=>rfl
   | true =>
    have:=RH hn hC j oj i hoj hij ((zQ ho hij hio hoj hs hsj).2 hcl) (hC j oj hoj hjd)
    rw[this] at hif;cases hif
  have b5y:∀ q ∈ readsOf ops o,fA (fun j=>decide (j<i)) 0 (CP ops.toList ss) (aW G) q=fA (fun j=>L.getD j false) 0 (CP ops.toList ss) (aW G) q:=fun q hq=>yY _ 0 _ _ rfl (fun j u hu hr=>by
   obtain⟨oj,sj,h1,h2,rfl⟩:=a4U hu
   have hdj:=TF hr
   have h1':ops[j]?=some oj:=by simpa using h1
   rw[qp]
   by_cases hji:j<i
   ·simp only[hji,decide_true]
    exact(a4O j oj sj hji h1' h2 (by simp[clash,a1F hdj hq])).symm
   ·simp only[hji,decide_false]
    by_cases e:j=i
    ·rw[e];exact hif.symm
    ·exact(ZE j oj sj (by omega) h1' h2 (by simp[clash,a1F hdj hq])).symm)
  have a9e:∀ r ∈ s.touch,fA (fun j=>decide (j<i)) 0 (zM ss) (aQ R) r=fA (fun j=>L.getD j false) 0 (zM ss) (aQ R) r:=fun r hr=>yY _ 0 _ _ rfl (fun j u hu hr'=>by
   obtain⟨sj,h2,rfl⟩:=a4Y hu
   have hjl:j<ops.size:=by rw[<-hlen'];exact(oz.1 h2).1
   have h1':ops[j]?=some ops[j]:=Aa hjl
   rw[qp]
   by_cases hji:j<i
   ·simp only[hji,decide_true]
    exact(a4O j _ sj hji h1' h2 (a4t (YA hr' hr))).symm
   ·simp only[hji,decide_false]
    by_cases e:j=i
    ·rw[e];exact hif.symm
    ·exact(ZE j _ sj (by omega) h1' h2 (b2e (YA hr' hr))).symm)
  have b4w:wB B (fA (fun j=>L.getD j false) 0 (CP ops.toList ss) (aW G)) (fA (fun j=>L.getD j false) 0 (zM ss) (aQ R)) ops o=some (vi,s.k,s.l):=by
   rw[<-hone]
   refine(a1W b5y (fun q hq r hr=>a9e r ?_) (fun r hr=>a9e r ?_)).symm
   ·rw[a9f];exact zf _ (zf _ (Bd.2 ⟨q,hq,hr⟩))
   ·rw[a9f];exact zf _ (Az _ (by rw[hr];simp))
  have a9a:fA (fun j=>(L.setIfInBounds i true).getD j false) 0 (zM ss) (aQ R)=iI (fA (fun j=>L.getD j false) 0 (zM ss) (aQ R)) s.l:=by
   refine DT _ 0 i _ (by unfold zM;rw[tq,hs];rfl) (by rw[qp];exact hif) (by rw[qp];exact vG hl) (fun j hj=>nU (by omega)) (fun r hr j v hv hij hr'=>?_)
   obtain⟨sj,h2,rfl⟩:=a4Y hv
   have hjl:j<ops.size:=by rw[<-hlen'];exact(oz.1 h2).1
   have hjt:r ∈ sj.touch:=by
    obtain⟨sj',_,h3,_,_,h4⟩:=hat j ops[j] (by simp[hjl])
    rw[h2] at h3
    cases h3
    rw[h4];exact Az _ hr'
   rw[qp]
   exact ZE j _ sj hij (Aa hjl) h2 (a4t (YA hr hjt))
  have b5v:fA (fun j=>(L.setIfInBounds i true).getD j false) 0 (CP ops.toList ss) (aW G)=iI (fA (fun j=>L.getD j false) 0 (CP ops.toList ss) (aW G)) (a0B o.dst s.k):=by
   refine DT _ 0 i _ (by unfold CP;rw[List.getElem?_zipWith,hs];simp[hio]) (by rw[qp];exact hif) (by rw[qp];exact vG hl) (fun j hj=>nU (by omega)) (fun r hr j v hv hij hr'=>?_)
   obtain⟨oj,sj,h1,h2,rfl⟩:=a4U hv
   have h1':ops[j]?=some oj:=by simpa using h1
   have hd1:=TF hr
   have hd2:=TF hr'
   have:=(zQ ho hij hio h1' hs h2).1
   simp[a0u,hd1,hd2] at this
  have hCl:MS ops (L.setIfInBounds i true):=by
   intro j oj hoj hj e he hb'
   have hset:∀ q,L.getD q false=true->(L.setIfInBounds i true).getD q false=true:=fun q hq=>by
    by_cases e1:i=q
    ·subst e1;rw[hif] at hq;cases hq
    ·rw[nU e1];exact hq
   by_cases e1:j=i
   ·subst e1
    rw[hio] at hoj
    cases hoj
    exact hset _ (nX e he hb')
   ·rw[nU (fun e2=>e1 e2.symm)] at hj
    exact hset _ (hC j oj hoj hj e he hb')
  unfold wpOp
  rw[hio]
  refine a1X hB b4w (hvi hv) m1 m2 (fun v w' E' n1 n2 n3 n4=>⟨by simpa using hL,hCl,E',n2.fix.trans m0,?_,?_⟩)
  ·rw[a9a,<-qA];exact n1
  ·rw[a9a,b5v,<-qA];exact m2.put n2 (WE b4w) n3 n4
 ·have hnew:∀ j,(Array.replicate ops.size false).getD j false=false:=fun j=>FD _ j
  have e1:∀ {α:Type} (us:List (List (Nat × α))) (f:Nat->α),fA (fun j=>(Array.replicate ops.size false).getD j false) 0 us f=f:=fun us f=>by
   funext r
   exact BA us 0 f (fun j u _ _=>hnew _)
  rw[e1,e1]
  obtain⟨n1,n2⟩:=hM.grows (bg w.heap.size w).drew
  have hcl0:MS ops (Array.replicate ops.size false):=fun j o hj hj2=>by rw[hnew] at hj2;cases hj2
  exact⟨by simp,hcl0,E,rfl,n1,hf.size,hf.defers,fun s=>n2.wf _ (hf.wf s),fun s=>n2.holds _ _ (hf.wf s) (hf.holds s),hf.par⟩
end
end
end Go.Proofs.YtbkocjmmbkifjaaGreat
