/-
  Lemmas for the theorem vstations28_holds, part 15 of 34.
-/
import Derived.Tactics
import Derived.Test.YtbkocjmmbkifjaaGreatQs14
namespace Go.Proofs.YtbkocjmmbkifjaaGreat
open Go Go.RowKit
theorem Ac:type_of% @List.mem_append_left:=@List.mem_append_left
theorem Bl:type_of% @List.mem_append_right:=@List.mem_append_right
theorem zq:type_of% @List.mem_flatMap:=@List.mem_flatMap
theorem iw:type_of% @Bool.or_eq_true:=@Bool.or_eq_true
section
set_option linter.unusedSimpArgs false
set_option linter.unusedVariables false
abbrev Gam:=List (Nat × K)
abbrev Rho:=List (Nat × Res)
def aY:Gam->Nat->K
 | [],_=>.any
 | (s,k)::G,q=>if q=s then k else aY G q
def aS:Rho->Nat->Res
 | [],_=>.none
 | (s,x)::R,q=>if q=s then x else aS R q
def b7I (r:Nat) (R:Rho):Rho:=R.filter fun p=>p.1 != r
theorem RV {r q:Nat} (h:q≠r):∀ (R:Rho),aS (b7I r R) q=aS R q
 | []=>rfl
 | (s,x)::R=>by
  unfold b7I
  rw[List.filter_cons]
  split
  ·simp only[aS]
   split
   ·rfl
   ·exact RV h R
  ·rename_i hs
   have hs:s=r:=by simpa using hs
   simp only[aS]
   rw[ji (by rw[hs];exact h)]
   exact RV h R
def aft (R:Rho):List (Nat × Res)->Rho
 | []=>R
 | q::l=>aft (q::b7I q.1 R) l
theorem oJ:∀ (l:List (Nat × Res)) (R:Rho),aS (aft R l)=after (aS R) l
 | [],_=>rfl
 | (r,x)::l,R=>by
  rw[aft,oJ l,after]
  congr 1
  funext q
  simp only[aS]
  unfold bH
  split
  ·rfl
  ·rename_i h;exact RV h R
def opK (G:Nat->K):Operand->K
 | .tmp s=>G s
 | .const v=>wX v
 | .func f=>.val (.clo f .unit) ()
 | .global _=>.any
def unW:K->K
 | .when _ k=>k
 | k=>k
def a9i:K->List Cd
 | .when b _=>[b=true]
 | _=>[]
def tmpsOf (op:Op):List Nat:=op.operands.toList.filterMap fun x=>match x with
 | .tmp s=>some s
 | _=>none
def jB (ts:List Nat) (G:Nat->K) (s:Nat):K:=if ts.contains s then G s else .any
def keepW (op:Op) (s:Nat):Bool:=match op with
 | .pick (.tmp c) _ _=>c != s
 | _=>false
def unG (op:Op) (G:Nat->K) (s:Nat):K:=if keepW op s then G s else unW (G s)
def NC (op:Op) (s:Nat) (k:K):List Cd:=if keepW op s then [] else a9i k
structure Book where
 P:Program
 C:FuncId->List At->List Ctr
 T:Told
 N:Nat
 keep:Nat->Bool
def Book.Ok (B:Book):Prop:=(∀ g ts,∀ c ∈ B.C g ts,aI B.P g c)/\∀ g ts,∀ c ∈ B.T.nc g ts,NOk B.P g c
def eqb (c b:Bool):Bool:=c==b
def a9u (B:Book):Option Nat->Bool
 | some d=>decide (d<B.N)&&!B.keep d
 | none=>true
def a9T (g:Bool):List Cd->List Cd
 | []=>[]
 | p::ps=>[g=true->dJ (p::ps)]
theorem a7l {g:Bool} {l:List Cd} (h:dJ (a9T g l)) (hg:g=true):dJ l:=by
 cases l with
 | nil=>trivial
 | cons p ps=>exact h.1 hg
def gdK (b:Bool):K->Option Bool
 | .val .bool c=>some (eqb c b)
 | .when r (.val .bool c)=>some (r&&eqb c b)
 | _=>none
def a1U (B:Book) (ρ:Nat->Res) (k:Operand->K) (d:Option Nat) (op:Op):MK:=match gOp B.P B.T k op with
 | some (vc,kk)=>some (vc,kk,[])
 | none=>oU B.P B.C B.T ρ k d op
def wK (B:Book) (G:Nat->K) (ρ:Nat->Res) (ops:Array Oper) (o:Oper):MK:=if a9u B o.dst then (match o.guard with
 | none=>oU B.P B.C B.T ρ (opK (jB (tmpsOf o.op) G)) o.dst o.op
 | some (j,b)=>match (ops[j]?).bind (·.dst) with
  | some s=>match gdK b (G s) with
   | some g=>match a1U B ρ (opK (jB (tmpsOf o.op) (unG o.op G))) o.dst o.op with
    | some (vc,k,[])=>some (a9T g ((tmpsOf o.op).flatMap (fun s=>NC o.op s (G s))++vc),.when g k,[])
    | _=>none
   | none=>none
  | none=>none) else none
def a1i (d:Option Nat) (k:K):List (Nat × K):=match d with
 | some d=>[(d,k)]
 | none=>[]
def iC {α:Type} (f:Nat->α):List (Nat × α)->Nat->α
 | []=>f
 | (r,x)::l=>iC (bH f r x) l
theorem qL:∀ (l:List (Nat × Res)) (ρ:Nat->Res),after ρ l=iC ρ l
 | [],_=>rfl
 | (_,_)::l,_=>qL l _
def b4U (d:Option Nat) (k:K) (G:Gam):Gam:=match d with
 | some d=>(d,k)::G
 | none=>G
theorem wF (G:Gam) (d:Option Nat) (k:K):aY (b4U d k G)=iC (aY G) (a1i d k):=by
 cases d with
 | none=>rfl
 | some d =>
  funext q
  show aY ((d,k)::G) q=bH (aY G) d k q
  simp only[aY]
  unfold bH
  split
  ·rfl
  ·rfl
structure Fits (E:Env) (ρ:Nat->Res) (w:World) (B:Book) (a:Act) (G:Nat->K):Prop where
 size:a.tmps.size=B.N
 defers:a.defers=[]
 wf:∀ s,(G s).wf ρ
 holds:∀ s,(G s).holds E ρ w (a.eval (.tmp s))
 par:∀ s,B.keep s=true->a.eval (.tmp s)=E.par s
section
variable {B:Book} {E:Env} {ρ:Nat->Res} {W w:World} {G:Nat->K} {a:Act}
theorem b1y {c:Bool} {ka kb k:K} {vc:List Cd} (h:kY c ka kb=some (vc,k)):k.wf ρ:=by
 cases ka<;>try (simp[kY] at h;done)
 case val t x =>
  cases kb<;>try (simp[kY] at h;done)
  case val t' y =>
   simp only[kY,jw,dh] at h
   obtain⟨y',h1,rfl,rfl⟩:=h
   trivial
  case when b kb =>
   cases kb<;>try (simp[kY] at h;done)
   case val t' y =>
    simp only[kY,jw,dh] at h
    obtain⟨y',h1,rfl,rfl⟩:=h
    trivial
 case when b ka =>
  cases ka<;>try (simp[kY] at h;done)
  case val t x =>
   cases kb<;>try (simp[kY] at h;done)
   case val t' y =>
    simp only[kY,jw,dh] at h
    obtain⟨y',h1,rfl,rfl⟩:=h
    trivial
   case when b' kb =>
    cases kb<;>try (simp[kY] at h;done)
    case val t' y =>
     simp only[kY,jw,dh] at h
     obtain⟨y',h1,rfl,rfl⟩:=h
     trivial
def K.isVal:K->Bool
 | .val _ _=>true
 | _=>false
theorem IJ {k:K} (h:k.isVal=true):k.wf ρ:=by cases k<;>simp_all [K.isVal];trivial
theorem b0r {op:BinOp} {k:IntKind} {a b:Int} {vc:List Cd} {kk:K} (h:b0q op k a b=some (vc,kk)):kk.isVal=true:=by
 cases op<;>simp only[b0q,ak,dh] at h<;>first|(cases h;done)|(obtain⟨_,rfl⟩:=h;rfl)
theorem b3z {op:BinOp} {a b:Bool} {vc:List Cd} {kk:K} (h:eqB op a b=some (vc,kk)):kk.isVal=true:=by
 cases op<;>simp only[eqB,ak,dh] at h<;>first|(cases h;done)|(obtain⟨_,rfl⟩:=h;rfl)
theorem QZ {r:Bool} {P:Program} {s:TypeId} {i:Nat} {ty:Ty} {y:ty.den} {vc:List Cd} {kk:K} (h:zD r P s i ty y=some (vc,kk)):kk.isVal=true:=by
 unfold zD at h
 split at h<;>try(cases h;done)
 split at h<;>try(cases h;done)
 simp only[ak,dh] at h
 obtain⟨_,rfl⟩:=h
 cases r<;>rfl
theorem YL {P:Program} {k:Operand->K} {op:Op} {vc:List Cd} {kk:K} (h:fB P k op=some (vc,kk)) (hw:∀ x,(k x).wf ρ):kk.wf ρ:=by
 cases op<;>try (simp[fB] at h;done)
 case move x=>simp only[fB,ak,dh] at h;rw[<-h.2];exact hw x
 case assign x=>simp only[fB,ak,dh] at h;rw[<-h.2];exact hw x
 case pick c a b =>
  simp only[fB] at h
  split at h<;>first|(cases h;done)|exact b1y h
 case call c =>
  obtain⟨cl,xs,ts⟩:=c
  cases cl<;>try (simp[fB] at h;done)
  rename_i bi
  cases bi<;>try (simp[fB] at h;done)
  simp only[fB] at h
  (repeat' split at h)<;>first|(cases h;done)|(simp only[LP,b7w,ak,dh] at h;rw[<-h.2];trivial)
 case unOp op t x =>
  cases op<;>simp only[fB] at h<;>try(cases h;done)
  all_goals (split at h<;>first|(cases h;done)|(simp only[b7H,b7E,ZI,ak,dh] at h;rw[<-h.2];trivial))
 case binOp op t x y yt =>
  simp only[fB] at h
  split at h<;>try(cases h;done)
  ·split at h<;>first|(cases h;done)|exact IJ (b0r h)
  ·split at h<;>first|(cases h;done)|exact IJ (b3z h)
  ·split at h<;>first|(cases h;done)|(rename_i hb;cases op<;>simp only[b4s,ak,dh] at h<;>first|(cases h;done)|(rw[<-h.2];trivial))
  ·split at h<;>try(cases h;done)
   split at h<;>try(cases h;done)
   cases op<;>simp only[eqS,ak,dh] at h<;>first|(cases h;done)|(rw[<-h.2];trivial)
 case extract x i =>
  simp only[fB] at h
  split at h<;>try(cases h;done)
  ·split at h<;>first|(cases h;done)|(simp only[ak,dh] at h;rw[<-h.2];trivial)
  ·rename_i ks hkx
   have hwx:=hw x
   rw[hkx] at hwx
   split at h<;>first|(cases h;done)|(simp only[ak,dh] at h;rw[<-h.2])
   rename_i e
   exact SI.1 (hwx _ (Cc e))
 case field s x i =>
  simp only[fB] at h
  split at h<;>first|(cases h;done)|exact IJ (QZ h)
 case fieldAddr s x i =>
  simp only[fB] at h
  split at h<;>first|(cases h;done)|exact IJ (QZ h)
 all_goals
  simp only[fB] at h
  (repeat' split at h)<;>first|(cases h;done)|(simp only[GR,a5f,b3M,ZI,ak,dh] at h;rw[<-h.2];trivial)
theorem a7c (v:Value):(wX v).wf ρ:=by unfold wX;split<;>trivial
theorem JB (hf:Fits E ρ w B a G):(∀ x,(opK G x).wf ρ)/\∀ x,(opK G x).holds E ρ w (a.eval x):=by
 constructor
 ·intro x
  cases x with
  | tmp s=>exact hf.wf s
  | const v=>exact a7c v
  | func f=>trivial
  | global g=>trivial
 ·intro x
  cases x with
  | tmp s=>exact hf.holds s
  | const v=>exact a7b v
  | func f=>exact⟨[.func (.func f) #[] #[]],rfl,[],rfl,rfl⟩
  | global g=>trivial
theorem Fits.put {E':Env} {ρ':Nat->Res} {w':World} {o:Oper} {k:K} {v:Value} (hf:Fits E ρ w B a G) (hx:Ext E ρ w E' ρ' w') (hd:a9u B o.dst=true) (hw:k.wf ρ') (hk:k.holds E' ρ' w' v):Fits E' ρ' w' B (a.put o.dst v) (iC G (a1i o.dst k)):=by
 cases hod:o.dst with
 | none=>exact⟨hf.size,hf.defers,fun s=>hx.wf _ (hf.wf s),fun s=>hx.holds _ _ (hf.wf s) (hf.holds s),fun s hs=>by rw[hx.par];exact hf.par s hs⟩
 | some d =>
  rw[hod] at hd
  have hd:d<B.N/\B.keep d=false:=by simpa [a9u] using hd
  obtain⟨hd,hkd⟩:=hd
  refine⟨by simpa [Act.put] using hf.size,hf.defers,fun s=>?_,fun s=>?_,fun s hs=>?_⟩
  ·show K.wf ρ' (bH G d k s)
   unfold bH
   split
   ·exact hw
   ·exact hx.wf _ (hf.wf s)
  ·show K.holds E' ρ' w' (bH G d k s) _
   unfold bH
   split
   ·rename_i e
    subst e
    have:(a.put (some s) v).eval (.tmp s)=v:=by
     have hs9:=hf.size
     have hs8:s<a.tmps.size:=by rw[hs9];exact hd
     simp[Act.put,Act.eval,oz,hs8]
    rw[this];exact hk
   ·rename_i e
    have:(a.put (some d) v).eval (.tmp s)=a.eval (.tmp s):=by
     simp[Act.put,Act.eval,oz,Array.getElem?_setIfInBounds,show ¬ d=s from fun e'=>e e'.symm]
    rw[this];exact hx.holds _ _ (hf.wf s) (hf.holds s)
  ·have e:¬ d=s:=fun e=>by subst e;rw[hkd] at hs;cases hs
   have:(a.put (some d) v).eval (.tmp s)=a.eval (.tmp s):=by
    simp[Act.put,Act.eval,oz,Array.getElem?_setIfInBounds,e]
   rw[this,hx.par];exact hf.par s hs
theorem c1i {k:K} (h:k.wf ρ) (hc:dJ (a9i k)):(unW k).wf ρ:=by cases k<;>first|exact h|exact h hc.1
theorem a8j {k:K} {v:Value} (h:k.holds E ρ w v) (hc:dJ (a9i k)):(unW k).holds E ρ w v:=by cases k<;>first|exact h|exact h.1 hc.1
theorem rX {α:Type _} {f:α->List Cd}:∀ {l:List α} {s:α},dJ (l.flatMap f)->s ∈ l->dJ (f s)
 | x::l,s,h,hs=>by
  rw[List.flatMap_cons] at h
  obtain⟨h1,h2⟩:=dB.1 h
  rcases qh.1 hs with rfl|hs
  ·exact h1
  ·exact rX h2 hs
theorem a7H {ts:List Nat} (hf:Fits E ρ w B a G):Fits E ρ w B a (jB ts G):=by
 refine⟨hf.size,hf.defers,fun s=>?_,fun s=>?_,hf.par⟩
 ·unfold jB;split
  ·exact hf.wf s
  ·trivial
 ·unfold jB;split
  ·exact hf.holds s
  ·trivial
theorem a3W {ts:List Nat} {op:Op} (hf:Fits E ρ w B a G) (hc:dJ (ts.flatMap fun s=>NC op s (G s))):Fits E ρ w B a (jB ts (unG op G)):=by
 refine⟨hf.size,hf.defers,fun s=>?_,fun s=>?_,hf.par⟩
 ·unfold jB;split
  ·rename_i hs
   have hc:=rX hc (show s ∈ ts by simpa using hs)
   unfold unG;unfold NC at hc
   split
   ·exact hf.wf s
   ·rename_i hk;rw[ji hk] at hc;exact c1i (hf.wf s) hc
  ·trivial
 ·unfold jB;split
  ·rename_i hs
   have hc:=rX hc (show s ∈ ts by simpa using hs)
   unfold unG;unfold NC at hc
   split
   ·exact hf.holds s
   ·rename_i hk;rw[ji hk] at hc;exact a8j (hf.holds s) hc
  ·trivial
theorem a2E (hB:B.Ok) {ops:Array Oper} {o:Oper} {vc:List Cd} {kk:K} {l:List (Nat × Res)} (h:wK B G ρ ops o=some (vc,kk,l)) (hv:dJ vc) (hM:Mem E ρ W w) (hf:Fits E ρ w B a G)
  {next:Act->World->Prop} {Q:Exit->Act->World->Prop} (hn:∀ v w' E',Mem E' (after ρ l) W w'->Ext E ρ w E' (after ρ l) w'->kk.wf (after ρ l)->kk.holds E' (after ρ l) w' v->next (a.put o.dst v) w') :
  if Region.wanted o (yielded ops a.tmps) then o.wp B.P a w next Q\/(o.asks B.P a w/\LetsOut Q) else next (a.put o.dst undef) w:=by
 unfold wK at h
 split at h<;>try(cases h;done)
 rename_i hd
 cases hg:o.guard with
 | none =>
  simp only[hg] at h
  obtain⟨h1,h2⟩:=JB (a7H (ts:=tmpsOf o.op) hf)
  have hw:Region.wanted o (yielded ops a.tmps)=true:=by simp[Region.wanted,hg]
  rw[jm hw]
  exact .inl (YX hB.1 hB.2 h hv hM h1 h2 (fun vc' kk' hp=>YL hp h1) next Q hn)
 | some jb =>
  obtain⟨j,b⟩:=jb
  simp only[hg] at h
  split at h<;>try(cases h;done)
  rename_i s hs
  split at h<;>try(cases h;done)
  rename_i g hks
  split at h<;>try(cases h;done)
  rename_i vc1 k1 hst
  simp only[ak,dh] at h
  obtain⟨rfl,rfl,rfl⟩:=h
  have hwn:Region.wanted o (yielded ops a.tmps)=g:=by
   have hsv:=hf.holds s
   have hv1:∀ c:Bool,a.tmps.getD s undef=.bool c->Region.wanted o (yielded ops a.tmps)=eqb c b:=fun c h1=>by
    have ht:a.tmps[s]?=some (.bool c):=by
     rw[oz] at h1
     cases h2:a.tmps[s]? with
     | none=>rw[h2] at h1;cases h1
     | some v=>rw[h2] at h1;exact vg some h1
    simp[Region.wanted,hg,yielded,hs,ht]
    rfl
   have hv2:a.tmps.getD s undef=undef->Region.wanted o (yielded ops a.tmps)=false:=fun h1=>by
    rw[oz] at h1
    cases h2:a.tmps[s]? with
    | none=>simp[Region.wanted,hg,yielded,hs,h2]
    | some v =>
     rw[h2] at h1
     have h1:v=undef:=h1
     subst h1
     simp[Region.wanted,hg,yielded,hs,h2]
     try first|rfl|(intro e;cases e;done)|(simp[undef];done)|(unfold undef;simp;done)
   unfold gdK at hks
   split at hks<;>first|(cases hks;done)|skip
   ·rename_i c hk
    rw[hk] at hsv
    have hsv:=oV hsv
    simp only[ak] at hks
    rw[<-hks];exact hv1 c hsv
   ·rename_i r c hk
    rw[hk] at hsv
    simp only[ak] at hks
    rw[<-hks]
    cases r with
    | true=>have hsv:=oV (hsv.1 rfl);exact hv1 c hsv
    | false=>exact hv2 (hsv.2 rfl)
  rw[hwn]
  by_cases hcb:g=true
  ·rw[jm hcb]
   obtain⟨hv1,hv2⟩:=dB.1 (a7l hv hcb)
   obtain⟨h1,h2⟩:=JB (a3W hf hv1)
   unfold a1U at hst
   split at hst
   ·rename_i vc2 k2 hgo
    simp only[ak,dh] at hst
    obtain⟨rfl,rfl,_⟩:=hst
    exact .inl ((b6W hgo hv2 hM h2).steps next Q (fun v w' E' m1 m2 m3 m4=>hn v w' E' m1 m2 (fun _=>m3) ⟨fun _=>m4,fun e=>by rw[hcb] at e;cases e⟩))
   ·exact .inl (YX hB.1 hB.2 hst hv2 hM h1 h2 (fun vc' kk' hp=>YL hp h1) next Q (fun v w' E' m1 m2 m3 m4=>hn v w' E' m1 m2 (fun _=>m3) ⟨fun _=>m4,fun e=>by rw[hcb] at e;cases e⟩))
  ·rw[ji hcb]
   exact hn undef w E hM (Ext.refl _ _ _) (fun e=>absurd e hcb) ⟨fun e=>absurd e hcb,fun _=>rfl⟩
def xY (B:Book) (ops:Array Oper):List Oper->Gam->Rho->Option (List Cd × Gam × Rho)
 | [],G,R=>some ([],G,R)
 | o::rest,G,R=>match wK B (aY G) (aS R) ops o with
  | some (vc,k,l)=>match xY B ops rest (b4U o.dst k G) (aft R l) with
   | some (vc',G',R')=>some (vc++vc',G',R')
   | none=>none
  | none=>none
theorem YI {ops:Array Oper} {o:Oper} {x:List Cd × K × List (Nat × Res)} (h:wK B G ρ ops o=some x):a9u B o.dst=true:=by
 unfold wK at h
 split at h
 ·assumption
 ·cases h
theorem YU (hB:B.Ok) {ops:Array Oper} {Q:Exit->Act->World->Prop}:∀ {l:List Oper} {G:Gam} {R:Rho} {E:Env} {w:World} {a:Act} {vc:List Cd} {G':Gam} {R':Rho},xY B ops l G R=some (vc,G',R')->dJ vc->Mem E (aS R) W w->Fits E (aS R) w B a (aY G) ->
  (∀ E' a' w',E'.fix=E.fix->Mem E' (aS R') W w'->Fits E' (aS R') w' B a' (aY G')->Q .normal a' w')->wpList B.P ops Q l a w
 | [],G,R,E,w,a,vc,G',R',h,hv,hM,hf,hq=>by
  simp only[xY,ak,dh] at h
  obtain⟨_,rfl,rfl⟩:=h
  exact hq E a w rfl hM hf
 | o::rest,G,R,E,w,a,vc,G',R',h,hv,hM,hf,hq=>by
  simp only[xY] at h
  split at h<;>try(cases h;done)
  rename_i vc1 k l1 h1
  split at h<;>try(cases h;done)
  rename_i vc2 G2 R2 h2
  simp only[ak,dh] at h
  obtain⟨rfl,rfl,rfl⟩:=h
  obtain⟨hv1,hv2⟩:=dB.1 hv
  exact a2E hB h1 hv1 hM hf (fun v w' E' m1 m2 m3 m4=>by
   rw[<-oJ] at m1 m2 m3 m4
   exact YU hB h2 hv2 m1 (by rw[wF];exact hf.put m2 (YI h1) m3 m4) (fun E2 a2 w2 hb2=>hq E2 a2 w2 (hb2.trans m2.fix)))
end
end
section
set_option linter.unusedSimpArgs false
set_option linter.unusedVariables false
set_option maxRecDepth 20000
theorem a8m {P:Program} {md:Region.Mode} {ops:Array Oper} {Q:Exit->Act->World->Prop} (I:Array Bool->Act->World->Prop) (hd:rY md ops=true)
  (hend:∀ L a w,I L a w->(∀ i,i<ops.size->L.getD i true=true)->Q .normal a w)
  (hstep:∀ L a w i o,I L a w->ops[i]?=some o->L.getD i true=false->(∀ e ∈ o.after,Region.binds md e=true->L.getD e.on false=true)->wpOp P ops Q i (I (L.setIfInBounds i true)) a w) :
  ∀ fuel L a w,FQ L<=fuel->I L a w->wpAny P md ops Q fuel L a w:=by
 intro fuel
 induction fuel with
 | zero =>
  intro L a w hu hI
  have hn:Region.ready md ops L=[]:=by
   cases hr:Region.ready md ops L with
   | nil=>rfl
   | cons i r =>
    exfalso
    obtain⟨o,_,h2,_⟩:=CX (by rw[hr];exact mg)
    have:=yE h2
    omega
  exact⟨hn,hend L a w hI (nY hd hn)⟩
 | succ fuel ih =>
  intro L a w hu hI
  refine⟨fun hn=>hend L a w hI (nY hd hn),fun i hi=>?_⟩
  obtain⟨o,h1,h2,h3⟩:=CX hi
  refine wpOp_mono (fun a' w' h'=>ih _ _ _ ?_ h') (hstep L a w i o hI h1 h2 h3)
  have:=yE h2
  omega
def zU:K0->List Nat
 | .val _ _=>[]
 | .own r _=>[r]
 | .ptr r _=>[r]
 | .lQ r=>[r]
def K.res:K->List Nat
 | .ptr r _=>[r]
 | .own r _=>[r]
 | .when _ k=>k.res
 | .cell r _ _=>[r]
 | .mrow r _ _=>[r]
 | .mpos r _ _ _=>[r]
 | .lQ r=>[r]
 | .mix ks=>ks.flatMap zU
 | .fn _ ks=>ks.flatMap zU
 | .sng r _=>[r]
 | .pls ks=>ks.flatMap zU
 | .pcl ks _=>ks.flatMap zU
 | _=>[]
def c1f:Res->List Nat
 | .kF k=>k.res
 | _=>[]
def pF (ρ:Nat->Res) (k:K):List Nat:=k.res++k.res.flatMap fun r=>c1f (ρ r)
section
variable {P:Program} {C:FuncId->List At->List Ctr} {T:Told} {ρ ρ':Nat->Res}
theorem uS {α:Type} {f g:Nat->α} {r:Nat} (h:f r=g r):∀ (l:List (Nat × α)),iC f l r=iC g l r
 | []=>h
 | (q,x)::l=>by
  simp only[iC]
  refine uS ?_ l
  unfold bH;split
  ·rfl
  ·exact h
theorem jP {α:Type} {r:Nat}:∀ (l:List (Nat × α)) (f:Nat->α),r ∉ l.map (·.1)->iC f l r=f r
 | [],_,_=>rfl
 | (q,x)::l,f,h=>by
  simp only[zf,qh,not_or] at h
  simp only[iC]
  rw[jP l _ h.2,aQ _ _ h.1]
theorem MV {k:K} (h:∀ r ∈ k.res,ρ r=ρ' r):rP ρ k=rP ρ' k:=by
 cases k<;>try rfl
 ·rename_i r v
  simp only[rP,h r (by simp[K.res])]
 ·rename_i r v i
  simp only[rP,h r (by simp[K.res])]
theorem pR {k:K} {t:Option Ty} (h:∀ r ∈ k.res,ρ r=ρ' r):vJ ρ t k=vJ ρ' t k:=by
 cases k<;>first|rfl|exact MV h
theorem a4z {k:K} {t:Option Ty} (h:∀ r ∈ k.res,ρ r=ρ' r):a4y ρ t k=a4y ρ' t k:=by
 have:WA ρ k=WA ρ' k:=by
  cases k<;>try rfl
  ·rename_i t x;cases t<;>rfl
  ·rename_i r v
   simp only[WA,h r (by simp[K.res])]
  ·rename_i r v i
   simp only[WA,h r (by simp[K.res])]
 unfold a4y
 rw[this,pR h]
theorem MS {t:Option Ty}:∀ {ks:List K} {ρ ρ':Nat->Res},(∀ k ∈ ks,∀ r ∈ k.res,ρ r=ρ' r)->ED ρ t ks=ED ρ' t ks
 | [],_,_,_=>rfl
 | k::ks,ρ,ρ',h=>by
  simp only[ED,pR (h k (mg ..))]
  split
  ·rename_i p l _
   rw[MS (ρ:=after ρ l) (ρ':=after ρ' l) (fun k' hk' r hr=>by rw[qL,qL];exact uS (h k' (ku _ hk') r hr) l)]
  ·rfl
theorem yV:∀ {ts:List Ty} {ks:List K} {ρ ρ':Nat->Res},(∀ k ∈ ks,∀ r ∈ k.res,ρ r=ρ' r)->yU ρ ts ks=yU ρ' ts ks
 | [],[],_,_,_=>rfl
 | [],_::_,_,_,_=>rfl
 | _::_,[],_,_,_=>rfl
 | t::ts,k::ks,ρ,ρ',h=>by
  simp only[yU,pR (h k (mg ..))]
  split
  ·rename_i p l _
   rw[yV (ρ:=after ρ l) (ρ':=after ρ' l) (fun k' hk' r hr=>by rw[qL,qL];exact uS (h k' (ku _ hk') r hr) l)]
  ·rfl
theorem a1y {k:Operand->K} {d:Option Nat} {op:Op} (hk:∀ x,∀ r ∈ (k x).res,ρ r=ρ' r) (hd:∀ r,d=some r->ρ r=ρ' r):qP P T ρ k d op=qP P T ρ' k d op:=by
 cases op<;>try rfl
 case alloc t =>
  simp only[qP]
  split
  ·rw[hd _ (by first|assumption|rfl)]
  ·rfl
 case box t x =>
  simp only[qP,pR (hk x)]
  split
  ·rw[hd _ (by first|assumption|rfl)]
  ·rfl
 case load t x =>
  simp only[qP]
  split
  ·rename_i r o hx;rw[hk x r (by rw[hx];simp[K.res])]
  ·rfl
 case store t x y =>
  simp only[qP,pR (hk y)]
  split
  ·rename_i r o _ _ hx _;rw[hk x r (by rw[hx];simp[K.res])]
  ·rfl
 case fieldAddr s x i =>
  simp only[qP]
  split
  ·rename_i r o hx;rw[hk x r (by rw[hx];simp[K.res])]
  ·rfl
 case indexAddr s x i =>
  simp only[qP]
  split
  ·rename_i r o _ _ hx _;rw[hk x r (by rw[hx];simp[K.res])]
  ·rfl
theorem a2O {k:Operand->K} {d:Option Nat} {op:Op} (hk:∀ x,∀ r ∈ (k x).res,ρ r=ρ' r) (hd:∀ r,d=some r->ρ r=ρ' r):AZ P T ρ k d op=AZ P T ρ' k d op:=by
 cases op<;>try rfl
 case buildSlice t len parts =>
  simp only[AZ]
  have h1:ED ρ (a1F P T t) (parts.toList.map fun q=>k q.2)=ED ρ' (a1F P T t) (parts.toList.map fun q=>k q.2):=MS (fun k' hk' r hr=>by
   obtain⟨q,_,rfl⟩:=uw.1 hk'
   exact hk q.2 r hr)
  rw[h1]
  split
  ·split
   ·split
    ·split
     ·rw[hd _ (by first|assumption|rfl)]
     ·rfl
    ·rfl
   ·rfl
   ·rfl
  ·rfl
 case call c =>
  obtain⟨cl,xs,ts⟩:=c
  cases cl<;>try rfl
  rename_i bi
  cases bi<;>try rfl
  simp only[AZ]
  split
  ·rename_i s x t t' _ _
   split
   ·simp only[a4z (hk x)]
    split
    ·rename_i r v hs;rw[hk s r (by rw[hs];simp[K.res])]
    ·split
     ·rw[hd _ (by first|assumption|rfl)]
     ·rfl
    ·rfl
   ·rfl
  ·rfl
theorem AV {k:K} {r:Nat} (h:r ∈ k.res):r ∈ pF ρ k:=Ac _ h
theorem b1P {k k':K} {r q:Nat} (h:r ∈ k.res) (hr:ρ r=.kF k') (hq:q ∈ k'.res):q ∈ pF ρ k:=Bl _ (zq.2 ⟨r,h,by rw[hr];exact hq⟩)
theorem BM {k:K} {t:Option Ty} (h:∀ r ∈ k.res,ρ r=ρ' r):uK ρ t k=uK ρ' t k:=by
 cases k<;>try rfl
 ·rename_i r v
  simp only[uK,h r (by simp[K.res])]
 ·rename_i r v i
  simp only[uK,h r (by simp[K.res])]
theorem NV {k:K} {t:Option Ty} (h:∀ r ∈ pF ρ k,ρ r=ρ' r):EO ρ t k=EO ρ' t k:=by
 have h0:∀ r ∈ k.res,ρ r=ρ' r:=fun r hr=>h r (AV hr)
 cases k
 case ptr r o=>simp only[EO,h0 r (by simp[K.res])]
 case lQ r =>
  simp only[EO,<-h0 r (by simp[K.res])]
  split
  ·rename_i k9 hr
   split
   ·rw[BM (ρ:=ρ) (ρ':=ρ') (fun q hq=>h q (b1P (k:=.lQ r) (by simp[K.res]) hr hq))]
   ·rfl
  ·rfl
 all_goals exact BM (t:=t) h0
theorem b7t (k:K0):(k0K k).res=zU k:=by cases k<;>rfl
theorem BL:∀ {u:Ty} {ks:List K0},(∀ k ∈ ks,∀ r ∈ pF ρ (k0K k),ρ r=ρ' r)->gK ρ u ks=gK ρ' u ks
 | .unit,[],_=>rfl
 | .pair a b,k::ks,h=>by
  simp only[gK]
  rw[NV (h k (mg ..)),BL (fun k' hk'=>h k' (ku _ hk'))]
 | .unit,_::_,_=>rfl
 | .pair _ _,[],_=>rfl
 | .bool,_,_=>rfl
 | .int _,_,_=>rfl
 | .lf _,_,_=>rfl
 | .list _,_,_=>rfl
 | .arr _ _,_,_=>rfl
 | .ref _,_,_=>rfl
 | .clo _ _,_,_=>rfl
 | .nls _,_,_=>rfl
theorem a6n {g:FuncId} {ks:List K0} {k:K0} {r:Nat} (hk:k ∈ ks) (h:r ∈ pF ρ (k0K k)):r ∈ pF ρ (.fn g ks):=by
 have h1:∀ q ∈ (k0K k).res,q ∈ (K.fn g ks).res:=fun q hq=>zq.2 ⟨k,hk,by rw[<-b7t];exact hq⟩
 rcases um.1 h with h|h
 ·exact AV (h1 r h)
 ·obtain⟨q,hq,h⟩:=zq.1 h
  exact Bl _ (zq.2 ⟨q,h1 q hq,h⟩)
theorem a3a {k:K} {t:Ty} (h:∀ r ∈ pF ρ k,ρ r=ρ' r):VG ρ t k=VG ρ' t k:=by
 cases k
 case fn g ks =>
  simp only[VG]
  split
  ·rw[BL (fun k hk r hr=>h r (a6n hk hr))]
  ·rfl
 all_goals exact NV (t:=some t) h
theorem uJ:∀ {ts:List Ty} {ks:List K},(∀ k ∈ ks,∀ r ∈ pF ρ k,ρ r=ρ' r)->mM ρ ts ks=mM ρ' ts ks
 | [],[],_=>rfl
 | [],_::_,_=>rfl
 | _::_,[],_=>rfl
 | t::ts,k::ks,h=>by
  simp only[mM]
  rw[a3a (h k (mg ..)),uJ (fun k' hk'=>h k' (ku _ hk'))]
theorem yX {ks:List K} (h:∀ k ∈ ks,∀ r ∈ pF ρ k,ρ r=ρ' r):∀ cs:List Ctr,EF ρ ks cs=EF ρ' ks cs
 | []=>rfl
 | c::cs=>by
  have e:a1v ρ c ks=a1v ρ' c ks:=by
   unfold a1v
   rw[uJ h,yV (fun k hk r hr=>h k hk r (AV hr))]
  simp only[EF]
  rw[e,yX h cs]
theorem a0d {k:Operand->K} {op:Op} (hk:∀ x,∀ r ∈ pF ρ (k x),ρ r=ρ' r):vK P C ρ k op=vK P C ρ' k op:=by
 cases op<;>try rfl
 case makeFunc fn first caps=>cases fn<;>rfl
 case call c =>
  obtain⟨cl,xs,ts⟩:=c
  cases cl<;>try rfl
  rename_i f
  simp only[vK]
  have hcap:∀ (t:Ty) (x:t.den) (k':K),k' ∈ VI t x->k'.res=[]:=by
   intro t
   induction t with
   | pair a b _ ih =>
    intro x k' h
    rcases qh.1 h with rfl|h
    ·rfl
    ·exact ih x.2 k' h
   | _=>intro x k' h;cases h
  split
  ·rename_i g t cx hf
   rw[yX (fun k' hk' r hr=>by
    rcases um.1 hk' with h|h
    ·obtain⟨q,_,rfl⟩:=uw.1 h;exact hk q r hr
    ·exfalso
     unfold pF at hr
     rw[hcap t cx k' h] at hr
     simp at hr)]
  ·rename_i g l hf
   rw[yX (fun k' hk' r hr=>by
    rcases um.1 hk' with h|h
    ·obtain⟨q,_,rfl⟩:=uw.1 h;exact hk q r hr
    ·obtain⟨q,hq,rfl⟩:=uw.1 h
     exact hk f r (by rw[hf];exact a6n hq hr))]
  ·rfl
theorem a4g {k:Operand->K} {op:Op} (hk:∀ x,∀ r ∈ (k x).res,ρ r=ρ' r):JG P ρ k op=JG P ρ' k op:=by
 cases op<;>try rfl
 case indexAddr s x i =>
  simp only[JG]
  split
  ·rename_i r v _ _ hx _;rw[hk x r (by rw[hx];simp[K.res])]
  ·rename_i r v _ _ _ hx _;rw[hk x r (by rw[hx];simp[K.res])]
  ·rfl
  ·rfl
 case load t x =>
  simp only[JG]
  split
  ·rfl
  ·rename_i r v _ hx;rw[hk x r (by rw[hx];simp[K.res])]
  ·rename_i r v _ _ hx;rw[hk x r (by rw[hx];simp[K.res])]
  ·rename_i r hx;rw[hk x r (by rw[hx];simp[K.res])]
  ·rfl
 case call c =>
  obtain⟨cl,xs,ts⟩:=c
  cases cl<;>try rfl
  rename_i bi
  cases bi<;>try rfl
  simp only[JG]
  split
  ·rename_i x t _ _
   split
   ·split
    ·rename_i r v hx;rw[hk x r (by rw[hx];simp[K.res])]
    ·rename_i r v _ hx;rw[hk x r (by rw[hx];simp[K.res])]
    ·rfl
    ·rfl
   ·rfl
  ·rfl
theorem a4H {k:Operand->K} {d:Option Nat} {op:Op} (hk:∀ x,∀ r ∈ (k x).res,ρ r=ρ' r) (hd:∀ r,d=some r->ρ r=ρ' r):a1o P T ρ k d op=a1o P T ρ' k d op:=by
 cases op<;>try rfl
 case store t x y =>
  have hown:ownB ρ (k y)=ownB ρ' (k y):=by
   cases hy:k y<;>try rfl
   rename_i r v
   simp only[ownB]
   rw[hk y r (by rw[hy];simp[K.res])]
  simp only[a1o,pR (hk y),hown]
  split
  ·rename_i r v i hx
   rw[hk x r (by rw[hx];simp[K.res])]
   split
   ·rfl
   ·split
    ·rfl
    ·rename_i r2 v2 hy
     rw[hk y r2 (by rw[hy];simp[K.res])]
    ·rfl
   ·rfl
  ·rename_i r v id i hx;rw[hk x r (by rw[hx];simp[K.res])]
  ·rename_i r hx;rw[hk x r (by rw[hx];simp[K.res])]
  ·rfl
 case makeSlice t n m =>
  simp only[a1o]
  split
  ·rw[hd _ (by first|assumption|rfl)]
  ·rfl
theorem a3Q {k:Operand->K} {d:Option Nat} {op:Op} (hk:∀ x,∀ r ∈ (k x).res,ρ r=ρ' r) (hd:∀ r,d=some r->ρ r=ρ' r):TG P T ρ k d op=TG P T ρ' k d op:=by
 cases op<;>try rfl
 case buildSlice t len parts =>
  simp only[TG]
  split<;>try rfl
  split<;>try rfl
  rename_i r
  split<;>try rfl
  split<;>try rfl
  split<;>try rfl
  split
  ·rw[hd _ (by first|assumption|rfl)]
  ·rename_i y _ _
   split
   ·rename_i r2 v2 hy;rw[hk y r2 (by rw[hy];simp[K.res])]
   ·rfl
  ·rfl
 case call c =>
  obtain⟨cl,xs,ts⟩:=c
  cases cl<;>try rfl
  rename_i bi
  cases bi<;>try rfl
  simp only[TG]
  split
  ·rename_i s x t t' _ _
   split
   ·split
    ·rename_i r2 v2 hx
     rw[hk x r2 (by rw[hx];simp[K.res])]
     split
     ·split
      ·rename_i r v hs;rw[hk s r (by rw[hs];simp[K.res])]
      ·rw[hd _ (by first|assumption|rfl)]
      ·rfl
     ·rfl
    ·rfl
   ·rfl
  ·rfl
theorem NU {r:Nat} {row:Option Nat}:∀ {ts:List Ty} {ks:List K},(∀ k ∈ ks,∀ q ∈ k.res,ρ q=ρ' q)->KC ρ r row ts ks=KC ρ' r row ts ks
 | [],[],_=>rfl
 | [],_::_,_=>rfl
 | _::_,[],_=>rfl
 | t::ts,k::ks,h=>by
  simp only[KC]
  rw[BM (h k (mg ..)),NU (fun k' hk'=>h k' (ku _ hk'))]
theorem a2r {k:LK} {k0:K} (h:∀ q ∈ k0.res,ρ q=ρ' q):a5B ρ k k0=a5B ρ' k k0:=by
 cases k with
 | row e t =>
  cases k0<;>try rfl
  case own r v=>exact vg (OX e t r v) (h r (by simp[K.res]))
  case mrow r v i=>exact vg (OW e t r v i) (h r (by simp[K.res]))
 | mat e e2 t =>
  cases k0<;>try rfl
  case own r v=>exact vg (OV e e2 t r v) (h r (by simp[K.res]))
theorem FX {d:Option Nat} {ks:List K} (h:∀ k ∈ ks,∀ r ∈ pF ρ k,ρ r=ρ' r) (hd:∀ r,d=some r->ρ r=ρ' r):∀ cs:List jZ,yY ρ d ks cs=yY ρ' d ks cs
 | []=>rfl
 | c::cs=>by
  have e:EP ρ d ks c=EP ρ' d ks c:=by
   cases c with
   | mk k args pre made =>
    simp only[EP]
    split
    ·rw[hd _ (by first|assumption|rfl),uJ h]
    ·rfl
   | chg k args res pre out fn =>
    cases ks with
    | nil=>rfl
    | cons k0 ks =>
     have h0:∀ k ∈ k0::ks,∀ r ∈ k.res,ρ r=ρ' r:=fun k hk r hr=>h k hk r (AV hr)
     simp only[EP]
     rw[a2r (h0 k0 (mg ..)),yV (fun k hk=>h0 k (ku _ hk))]
     simp only[NU (ρ:=ρ) (ρ':=ρ') (ks:=ks) (fun k hk=>h0 k (ku _ hk))]
  simp only[yY]
  rw[e,FX h hd cs]
theorem a0c {k:Operand->K} {d:Option Nat} {op:Op} (hk:∀ x,∀ r ∈ pF ρ (k x),ρ r=ρ' r) (hd:∀ r,d=some r->ρ r=ρ' r):yZ P T ρ k d op=yZ P T ρ' k d op:=by
 cases op<;>try rfl
 case call c =>
  obtain⟨cl,xs,ts⟩:=c
  cases cl<;>try rfl
  rename_i f
  simp only[yZ]
  have hcap:∀ (t:Ty) (x:t.den) (k':K),k' ∈ VI t x->k'.res=[]:=by
   intro t
   induction t with
   | pair a b _ ih =>
    intro x k' h
    rcases qh.1 h with rfl|h
    ·rfl
    ·exact ih x.2 k' h
   | _=>intro x k' h;cases h
  split
  ·split
   ·refine FX (fun k9 hk9 r hr=>?_) hd _
    rcases um.1 hk9 with hk9|hk9
    ·obtain⟨q,_,rfl⟩:=uw.1 hk9;exact hk q r hr
    ·exfalso
     unfold pF at hr
     rw[hcap _ _ _ hk9] at hr
     simp at hr
   ·rfl
  ·rfl
theorem a1T {k:Operand->K} {op:Op} (hk:∀ x,∀ r ∈ (k x).res,ρ r=ρ' r):XC P ρ k op=XC P ρ' k op:=by
 unfold XC
 split
 ·rename_i t s lo hi mx
  have h:=MV (hk (.tmp s))
  split
  ·rename_i r v e
   rw[e] at h
   rw[h]
  ·rfl
 ·rfl
theorem a0f {k:Operand->K} {op:Op} (hk:∀ x,∀ r ∈ (k x).res,ρ r=ρ' r):vM P ρ k op=vM P ρ' k op:=by
 unfold vM
 split
 ·split
  ·split
   ·rename_i x y _ _ _ _ _ _ r v id ty1 ys hx hy
    rw[hk x r (by rw[hx];simp[K.res])]
   ·rfl
  ·rfl
 ·split
  ·split
   ·rename_i x y _ _ _ _ _ _ r v ty1 ys hx hy
    rw[hk x r (by rw[hx];simp[K.res])]
   ·rfl
  ·rfl
 ·rfl
theorem JU {k:Operand->K} {d:Option Nat} {op:Op} (hk:∀ x,∀ r ∈ pF ρ (k x),ρ r=ρ' r) (hd:∀ r,d=some r->ρ r=ρ' r):oU P C T ρ k d op=oU P C T ρ' k d op:=by
 have h0:∀ x,∀ r ∈ (k x).res,ρ r=ρ' r:=fun x r hr=>hk x r (AV hr)
 unfold oU
 rw[a1y h0 hd,a2O h0 hd,a4g h0,a4H h0 hd,a3Q h0 hd,a1T h0,a0c hk hd,a0f h0,a0d hk]
end
def XJ (ops:Array Oper) (o:Oper):Option Nat:=match o.guard with
 | some (j,_)=>(ops[j]?).bind (·.dst)
 | none=>none
def readsOf (ops:Array Oper) (o:Oper):List Nat:=tmpsOf o.op++(XJ ops o).toList
theorem b2R (ρ:Nat->Res) (k:K):pF ρ (unW k)=pF ρ k:=by cases k<;>rfl
theorem UF (ρ:Nat->Res) (v:Value):pF ρ (wX v)=[]:=by unfold wX;split<;>rfl
def moveB:Op->Bool
 | .move _=>true
 | _=>false
theorem NQ {P:Program} {C:FuncId->List At->List Ctr} {T:Told} {ρ ρ':Nat->Res} {k:Operand->K} {d:Option Nat} {op:Op} (h:moveB op=true):oU P C T ρ k d op=oU P C T ρ' k d op:=by
 cases op<;>simp[moveB] at h
 rfl
def a2Y (op:Op):List Nat:=if moveB op then [] else tmpsOf op
theorem a2D {B:Book} {G G':Nat->K} {ρ ρ':Nat->Res} {ops:Array Oper} {o:Oper} (hG:∀ s ∈ readsOf ops o,G s=G' s) (hρ:∀ s ∈ a2Y o.op,∀ r ∈ pF ρ (G s),ρ r=ρ' r) (hd:∀ r,o.dst=some r->ρ r=ρ' r):wK B G ρ ops o=wK B G' ρ' ops o:=by
 have h1:jB (tmpsOf o.op) G=jB (tmpsOf o.op) G':=by
  funext s
  unfold jB
  split
  ·rename_i h;exact hG s (Ac _ (by simpa using h))
  ·rfl
 have h2:jB (tmpsOf o.op) (unG o.op G)=jB (tmpsOf o.op) (unG o.op G'):=by
  funext s
  unfold jB
  split
  ·rename_i h;unfold unG;rw[hG s (Ac _ (by simpa using h))]
  ·rfl
 have h3:(tmpsOf o.op).flatMap (fun s=>NC o.op s (G s))=(tmpsOf o.op).flatMap (fun s=>NC o.op s (G' s)):=by
  have:∀ l:List Nat,(∀ s ∈ l,G s=G' s)->l.flatMap (fun s=>NC o.op s (G s))=l.flatMap (fun s=>NC o.op s (G' s)):=by
   intro l
   induction l with
   | nil=>intro _;rfl
   | cons x l ih=>intro h;rw[List.flatMap_cons,List.flatMap_cons,h x (mg ..),ih (fun s hs=>h s (ku _ hs))]
  exact this _ (fun s hs=>hG s (Ac _ hs))
 have k3:oU B.P B.C B.T ρ (opK (jB (tmpsOf o.op) G')) o.dst o.op=oU B.P B.C B.T ρ' (opK (jB (tmpsOf o.op) G')) o.dst o.op/\oU B.P B.C B.T ρ (opK (jB (tmpsOf o.op) (unG o.op G'))) o.dst o.op=oU B.P B.C B.T ρ' (opK (jB (tmpsOf o.op) (unG o.op G'))) o.dst o.op:=by
  by_cases hp:moveB o.op=true
  ·exact⟨NQ hp,NQ hp⟩
  unfold a2Y at hρ
  rw[ji hp] at hρ
  have k1:∀ x,∀ r ∈ pF ρ (opK (jB (tmpsOf o.op) G') x),ρ r=ρ' r:=by
   rw[<-h1]
   intro x r hr
   cases x with
   | tmp s =>
    have hr:r ∈ pF ρ (jB (tmpsOf o.op) G s):=hr
    unfold jB at hr
    split at hr
    ·rename_i h;exact hρ s (by simpa using h) r hr
    ·cases hr
   | const v=>exfalso;have hr:r ∈ pF ρ (wX v):=hr;rw[UF] at hr;cases hr
   | func f=>cases hr
   | global g=>cases hr
  have k2:∀ x,∀ r ∈ pF ρ (opK (jB (tmpsOf o.op) (unG o.op G')) x),ρ r=ρ' r:=by
   rw[<-h2]
   intro x r hr
   cases x with
   | tmp s =>
    have hr:r ∈ pF ρ (jB (tmpsOf o.op) (unG o.op G) s):=hr
    unfold jB at hr
    split at hr
    ·rename_i h
     refine hρ s (by simpa using h) r ?_
     unfold unG at hr
     split at hr
     ·exact hr
     ·rw[<-b2R];exact hr
    ·cases hr
   | const v=>exfalso;have hr:r ∈ pF ρ (wX v):=hr;rw[UF] at hr;cases hr
   | func f=>cases hr
   | global g=>cases hr
  exact⟨JU k1 hd,JU k2 hd⟩
 have k4:a1U B ρ (opK (jB (tmpsOf o.op) (unG o.op G'))) o.dst o.op=a1U B ρ' (opK (jB (tmpsOf o.op) (unG o.op G'))) o.dst o.op:=by
  unfold a1U
  rw[k3.2]
 unfold wK
 rw[h1,h2,h3,k3.1,k4]
 cases hg:o.guard with
 | none=>rfl
 | some jb =>
  obtain⟨j,b⟩:=jb
  simp only
  cases hs:(ops[j]?).bind (·.dst) with
  | none=>rfl
  | some s =>
   have:G s=G' s:=hG s (Bl _ (by simp[XJ,hg,hs]))
   simp only[this]
end
section
set_option linter.unusedSimpArgs false
set_option linter.unusedVariables false
set_option maxRecDepth 20000
def fE {α:Type} (done:Nat->Bool):Nat->List (List (Nat × α))->(Nat->α)->Nat->α
 | _,[],f=>f
 | j,u::us,f=>fE done (j+1) us (if done j then iC f u else f)
theorem zF {α:Type} {d d':Nat->Bool} {r:Nat}:∀ (us:List (List (Nat × α))) (b:Nat) (f g:Nat->α),f r=g r->(∀ j u,us[j]?=some u->r ∈ u.map (·.1)->d (b+j)=d' (b+j))->fE d b us f r=fE d' b us g r
 | [],b,f,g,h,_=>h
 | u::us,b,f,g,h,hd=>by
  simp only[fE]
  refine zF us (b+1) _ _ ?_ (fun j u' hu hr=>by have:=hd (j+1) u' hu hr;rwa [show b+(j+1)=b+1+j by omega] at this)
  by_cases hr:r ∈ u.map (·.1)
  ·have:=hd 0 u rfl hr
   rw[Nat.add_zero] at this
   rw[<-this]
   split
   ·exact uS h u
   ·exact h
  ·split<;>split<;>first
    | (rw[jP u _ hr,jP u _ hr];exact h)
    | (rw[jP u _ hr];exact h)
    |exact h
theorem CJ {α:Type} {d:Nat->Bool} {r:Nat}:∀ (us:List (List (Nat × α))) (b:Nat) (f:Nat->α),(∀ j u,us[j]?=some u->r ∈ u.map (·.1)->d (b+j)=false)->fE d b us f r=f r
 | [],b,f,_=>rfl
 | u::us,b,f,hd=>by
  simp only[fE]
  rw[CJ us (b+1) _ (fun j u' hu hr=>by have:=hd (j+1) u' hu hr;rwa [show b+(j+1)=b+1+j by omega] at this)]
  by_cases hr:r ∈ u.map (·.1)
  ·have:=hd 0 u rfl hr
   rw[Nat.add_zero] at this
   rw[this];rfl
  ·split
   ·exact jP u _ hr
   ·rfl
theorem WC {α:Type} {r:Nat}:∀ (l:List (Nat × α)) (f g:Nat->α),r ∈ l.map (·.1)->iC f l r=iC g l r
 | [],_,_,h=>by cases h
 | (q,x)::l,f,g,h=>by
  simp only[iC]
  by_cases hr:r ∈ l.map (·.1)
  ·exact WC l _ _ hr
  ·rw[jP l _ hr,jP l _ hr]
   have:r=q:=by
    rcases qh.1 h with h|h
    ·exact h
    ·exact absurd h hr
   subst this
   rw[aG,aG]
theorem EU {α:Type} {d d':Nat->Bool} {u:List (Nat × α)}:∀ (us:List (List (Nat × α))) (b i:Nat) (f:Nat->α),us[i]?=some u->d (b+i)=false->d' (b+i)=true->(∀ j,j≠b+i->d' j=d j)->(∀ r ∈ u.map (·.1),∀ j v,us[j]?=some v->i<j->r ∈ v.map (·.1)->d (b+j)=false)->fE d' b us f=iC (fE d b us f) u
 | v::us,b,0,f,hi,hd,hd',he,hn=>by
  simp only[List.getElem?_cons_zero,ak] at hi
  subst hi
  simp only[Nat.add_zero] at hd hd' he
  simp only[fE,hd,hd',Dl,Ad,if_false]
  funext r
  have h1:fE d' (b+1) us (iC f v) r=fE d (b+1) us (iC f v) r:=zF us (b+1) _ _ rfl (fun j u' hu hr=>he _ (by omega))
  rw[h1]
  by_cases hr:r ∈ v.map (·.1)
  ·rw[CJ us (b+1) _ (fun j u' hu hr'=>by have:=hn r hr (j+1) u' hu (by omega) hr';rwa [show b+(j+1)=b+1+j by omega] at this)]
   exact WC v _ _ hr
  ·rw[jP v _ hr]
   exact zF us (b+1) _ _ (jP v _ hr) (fun j u' hu hr=>rfl)
 | v::us,b,i+1,f,hi,hd,hd',he,hn=>by
  simp only[fE]
  have:(if d' b=true then iC f v else f)=(if d b=true then iC f v else f):=by rw[he b (by omega)]
  rw[this]
  exact EU us (b+1) i _ hi (by rwa [show b+1+i=b+(i+1) by omega]) (by rwa [show b+1+i=b+(i+1) by omega]) (fun j hj=>he j (by omega)) (fun r hr j v' hv hlt hr'=>by
   have:=hn r hr (j+1) v' hv (by omega) hr'
   rwa [show b+(j+1)=b+1+j by omega] at this)
 | [],b,i,f,hi,hd,hd',he,hn=>by simp at hi
theorem KU {α:Type} {d:Nat->Bool}:∀ (us:List (List (Nat × α))) (b:Nat) (f:Nat->α),(∀ j,j<us.length->d (b+j)=true)->fE d b us f=us.foldl iC f
 | [],b,f,h=>rfl
 | u::us,b,f,h=>by
  have h0:=h 0 (by simp)
  rw[Nat.add_zero] at h0
  simp only[fE,h0,Dl,List.foldl_cons]
  exact KU us (b+1) _ (fun j hj=>by have:=h (j+1) (by simpa using hj);rwa [show b+(j+1)=b+1+j by omega] at this)
structure Sim where
 k:K
 l:List (Nat × Res)
 touch:List Nat
def yB (B:Book) (ops:Array Oper):List Oper->Gam->Rho->Option (List Cd × List Sim × Gam × Rho)
 | [],G,R=>some ([],[],G,R)
 | o::rest,G,R=>match wK B (aY G) (aS R) ops o with
  | some (vc,k,l)=>match yB B ops rest (b4U o.dst k G) (aft R l) with
   | some (vc',ss,G',R')=>some (vc++vc',⟨k,l,(a2Y o.op).flatMap (fun s=>pF (aS R) (aY G s))++o.dst.toList++l.map (·.1)⟩::ss,G',R')
   | none=>none
  | none=>none
def isDst (o:Oper) (l:List Nat):Bool:=match o.dst with
 | some s=>l.contains s
 | none=>false
def a1a (o o':Oper):Bool:=match o.dst,o'.dst with
 | some s,some s'=>s==s'
 | _,_=>false
def clash (ops:Array Oper) (o o':Oper) (s s':Sim):Bool:=isDst o (readsOf ops o') || isDst o' (readsOf ops o) || s.l.any (fun q=>s'.touch.contains q.1) || s'.l.any (fun q=>s.touch.contains q.1)
def a3X (ops:Array Oper) (b:Array Nat) (ss:List Sim):Bool:=(List.range ops.size).all fun j=>match ops[j]?,ss[j]? with
 | some o',some s'=>(List.range j).all fun i=>match ops[i]?,ss[i]? with
  | some o,some s=>!a1a o o'&&(!clash ops o o' s s' || (b.getD j 0).testBit i)
  | _,_=>false
 | _,_=>false
def b1g (ops:Array Oper) (b:Array Nat):Bool:=(List.range ops.size).all fun j=>match ops[j]? with
 | some o=>(List.range j).all fun i=>!(b.getD j 0).testBit i || o.after.any fun e=>Region.binds .any e&&(e.on==i || (decide (e.on<j)&&decide (i<e.on)&&(b.getD e.on 0).testBit i))
 | none=>false
def OE (ops:Array Oper) (L:Array Bool):Prop:=∀ j o,ops[j]?=some o->L.getD j false=true->∀ e ∈ o.after,Region.binds .any e=true->L.getD e.on false=true
theorem TP {ops:Array Oper} {b:Array Nat} (h:b1g ops b=true) {L:Array Bool} (hc:OE ops L):∀ (j:Nat) (o:Oper) (i:Nat),ops[j]?=some o->i<j->(b.getD j 0).testBit i=true->(∀ e ∈ o.after,Region.binds .any e=true->L.getD e.on false=true)->L.getD i false=true:=by
 intro j
 induction j using Nat.strongRecOn with
 | _ j ih =>
  intro o i ho hij hb hd
  have hj:j<ops.size:=(Aj.1 ho).1
  have h1:=(Bz.1 h) j (vw.2 hj)
  rw[ho] at h1
  have h2:=(Bz.1 h1) i (vw.2 hij)
  rw[hb] at h2
  simp only[Bool.not_true,Bool.false_or,Array.any_eq_true'] at h2
  obtain⟨e,he,h3⟩:=h2
  simp only[au,iw,jf,aj] at h3
  obtain⟨h4,h5⟩:=h3
  have hdone:=hd e he h4
  rcases h5 with h5|⟨⟨h5,hie⟩,h6⟩
  ·rw[<-h5];exact hdone
  ·have ho':ops[e.on]?=some ops[e.on]:=Ar (by omega)
   exact ih e.on h5 _ i ho' hie h6 (hc e.on _ ho' hdone)
theorem NK {α:Type} {d:Nat->Bool}:∀ (us:List (List (Nat × α))) (b:Nat) (f:Nat->α),fE d (b+1) us f=fE (fun j=>d (j+1)) b us f
 | [],b,f=>rfl
 | u::us,b,f=>by simp only[fE];exact NK us (b+1) _
def DY (l:List Oper) (ss:List Sim):List (List (Nat × K)):=List.zipWith (fun o s=>a1i o.dst s.k) l ss
def zX (ss:List Sim):List (List (Nat × Res)):=ss.map (·.l)
theorem YV {B:Book} {ops:Array Oper}:∀ {l:List Oper} {G:Gam} {R:Rho} {vc:List Cd} {ss:List Sim} {G':Gam} {R':Rho},yB B ops l G R=some (vc,ss,G',R') ->
  ss.length=l.length/\aY G'=(DY l ss).foldl iC (aY G)/\aS R'=(zX ss).foldl iC (aS R) /\
  ∀ i o,l[i]?=some o->∃ s vi,ss[i]?=some s/\(dJ vc->dJ vi)/\wK B (fE (fun j=>decide (j<i)) 0 (DY l ss) (aY G)) (fE (fun j=>decide (j<i)) 0 (zX ss) (aS R)) ops o=some (vi,s.k,s.l) /\
   s.touch=(a2Y o.op).flatMap (fun q=>pF (fE (fun j=>decide (j<i)) 0 (zX ss) (aS R)) (fE (fun j=>decide (j<i)) 0 (DY l ss) (aY G) q))++o.dst.toList++s.l.map (·.1)
 | [],G,R,vc,ss,G',R',h=>by
  simp only[yB,ak,dh] at h
  obtain⟨_,rfl,rfl,rfl⟩:=h
  exact⟨rfl,rfl,rfl,fun i o hi=>by simp at hi⟩
 | o::rest,G,R,vc,ss,G',R',h=>by
  simp only[yB] at h
  split at h<;>try(cases h;done)
  rename_i vc1 k l1 h1
  split at h<;>try(cases h;done)
  rename_i vc2 ss2 G2 R2 h2
  simp only[ak,dh] at h
  obtain⟨rfl,rfl,rfl,rfl⟩:=h
  obtain⟨k1,k2,k3,k4⟩:=YV h2
  rw[wF] at k2 k4
  rw[oJ,qL] at k3 k4
  refine⟨by simp[k1],k2,k3,fun i o' hi=>?_⟩
  cases i with
  | zero =>
   simp only[List.getElem?_cons_zero,ak] at hi
   subst hi
   have e1:∀ {α:Type} (us:List (List (Nat × α))) (f:Nat->α),fE (fun j=>decide (j<0)) 0 us f=f:=fun us f=>by
    funext r
    exact CJ us 0 f (fun j u _ _=>by simp)
   exact⟨_,vc1,rfl,fun hv=>(dB.1 hv).1,by rw[e1,e1];exact h1,by rw[e1,e1]⟩
  | succ i =>
   obtain⟨s,vi,j1,j2,j3,j4⟩:=k4 i o' (by simpa using hi)
   have e1:∀ {α:Type} (u:List (Nat × α)) (us:List (List (Nat × α))) (f:Nat->α),fE (fun j=>decide (j<i+1)) 0 (u::us) f=fE (fun j=>decide (j<i)) 0 us (iC f u):=fun u us f=>by
    simp only[fE]
    rw[jm (by simp),NK]
    congr 1
    funext j
    simp
   refine⟨s,vi,by simpa using j1,fun hv=>j2 (dB.1 hv).2,?_,?_⟩
   ·show wK B (fE _ 0 (a1i o.dst k::DY rest ss2) (aY G)) (fE _ 0 (l1::zX ss2) (aS R)) ops o'=_
    rw[e1,e1];exact j3
   ·show s.touch=(a2Y o'.op).flatMap (fun q=>pF (fE _ 0 (l1::zX ss2) (aS R)) (fE _ 0 (a1i o.dst k::DY rest ss2) (aY G) q))++_++_
    rw[e1,e1];exact j4
theorem a5z {l:List Oper} {ss:List Sim} {j:Nat} {u:List (Nat × K)} (h:(DY l ss)[j]?=some u):∃ o s,l[j]?=some o/\ss[j]?=some s/\u=a1i o.dst s.k:=by
 unfold DY at h
 rw[List.getElem?_zipWith] at h
 cases h1:l[j]? with
 | none=>rw[h1] at h;cases h
 | some o =>
  cases h2:ss[j]? with
  | none=>rw[h1,h2] at h;cases h
  | some s=>rw[h1,h2] at h;simp at h;exact⟨o,s,rfl,rfl,h.symm⟩
theorem a5E {ss:List Sim} {j:Nat} {u:List (Nat × Res)} (h:(zX ss)[j]?=some u):∃ s,ss[j]?=some s/\u=s.l:=by
 unfold zX at h
 rw[xk] at h
 cases h2:ss[j]? with
 | none=>rw[h2] at h;cases h
 | some s=>rw[h2] at h;simp at h;exact⟨s,rfl,h.symm⟩
theorem VA {d:Option Nat} {k:K} {r:Nat} (h:r ∈ (a1i d k).map (·.1)):d=some r:=by
 cases d with
 | none=>cases h
 | some s=>simp[a1i] at h;rw[h]
theorem a2j {o:Oper} {l:List Nat} {s:Nat} (h:o.dst=some s) (hs:s ∈ l):isDst o l=true:=by simp[isDst,h,hs]
theorem ZV {l:List (Nat × Res)} {t:List Nat} {r:Nat} (h:r ∈ l.map (·.1)) (ht:r ∈ t):l.any (fun q=>t.contains q.1)=true:=by
 obtain⟨q,hq,rfl⟩:=uw.1 h
 exact List.any_eq_true.2 ⟨q,hq,by simpa using ht⟩
theorem AL {ops:Array Oper} {b:Array Nat} {ss:List Sim} (h:a3X ops b ss=true) {i j:Nat} {o o':Oper} {s s':Sim} (hij:i<j) (hi:ops[i]?=some o) (hj:ops[j]?=some o') (hs:ss[i]?=some s) (hs':ss[j]?=some s'):a1a o o'=false/\(clash ops o o' s s'=true->(b.getD j 0).testBit i=true):=by
 have hjl:j<ops.size:=(Aj.1 hj).1
 have h1:=(Bz.1 h) j (vw.2 hjl)
 rw[hj,hs'] at h1
 have h2:=(Bz.1 h1) i (vw.2 hij)
 rw[hi,hs] at h2
 simp only[au,dw,iw] at h2
 refine⟨h2.1,fun hc=>?_⟩
 rcases h2.2 with h3|h3
 ·rw[hc] at h3;cases h3
 ·exact h3
theorem a4V {ops:Array Oper} {o o':Oper} {s s':Sim} (h:s.l.any (fun q=>s'.touch.contains q.1)=true):clash ops o o' s s'=true:=by unfold clash;rw[h];simp
theorem b3j {ops:Array Oper} {o o':Oper} {s s':Sim} (h:s'.l.any (fun q=>s.touch.contains q.1)=true):clash ops o o' s s'=true:=by unfold clash;rw[h];simp
section
variable {B:Book} {W:World}
theorem a6O (hB:B.Ok) (hm:B.P.follows .mixedOrders=true) {id:Nat} {ops:Array Oper} {b:Array Nat} {Q:Exit->Act->World->Prop} {G:Gam} {R:Rho} {E:Env} {w:World} {a:Act} {vc:List Cd} {ss:List Sim} {G':Gam} {R':Rho}
  (h:yB B ops ops.toList G R=some (vc,ss,G',R')) (hd:rY .any ops=true) (ho:a3X ops b ss=true) (hn:b1g ops b=true) (hv:dJ vc) (hM:Mem E (aS R) W w) (hf:Fits E (aS R) w B a (aY G))
  (hq:∀ E' a' w',E'.fix=E.fix->Mem E' (aS R') W w'->Fits E' (aS R') w' B a' (aY G')->Q .normal a' w'):(Code.region id ops true).wp B.P Q a w:=by
 obtain⟨hlen,hG',hR',hat⟩:=YV h
 have hlen':ss.length=ops.size:=by simpa using hlen
 refine wp_region_any hm ?_
 refine a8m (fun L a w=>L.size=ops.size/\OE ops L/\∃ E',E'.fix=E.fix/\Mem E' (fE (fun j=>L.getD j false) 0 (zX ss) (aS R)) W w/\Fits E' (fE (fun j=>L.getD j false) 0 (zX ss) (aS R)) w B a (fE (fun j=>L.getD j false) 0 (DY ops.toList ss) (aY G))) hd ?_ ?_ _ _ _ _ (by rw[UZ];exact ay _) ?_
 ·rintro L a w ⟨hL,_,E9,m0,m1,m2⟩ hall
  have hdone:∀ j,j<ops.size->L.getD j false=true:=fun j hj=>xA hL hj (hall j hj)
  have e1:fE (fun j=>L.getD j false) 0 (zX ss) (aS R)=aS R':=by
   rw[hR']
   exact KU _ 0 _ (fun j hj=>by rw[tu];exact hdone j (by simpa [zX,hlen'] using hj))
  have e2:fE (fun j=>L.getD j false) 0 (DY ops.toList ss) (aY G)=aY G':=by
   rw[hG']
   exact KU _ 0 _ (fun j hj=>by rw[tu];exact hdone j (by simp[DY,hlen'] at hj;exact hj))
  rw[e1] at m1 m2
  rw[e2] at m2
  exact hq E9 a w m0 m1 m2
 ·rintro L a w i o ⟨hL,hC,E9,m0,m1,m2⟩ hio hl oK
  obtain⟨s,vi,hs,hvi,hone,b0h⟩:=hat i o (by simpa using hio)
  have hi:i<ops.size:=(Aj.1 hio).1
  have hif:L.getD i false=false:=EJ hl
  have a5u:∀ j oj sj,j<i->ops[j]?=some oj->ss[j]?=some sj->clash ops oj o sj s=true->L.getD j false=true:=fun j oj sj hji hoj hsj hcl =>
   TP hn hC i o j hio hji ((AL ho hji hoj hio hsj hs).2 hcl) oK
  have a0u:∀ j oj sj,i<j->ops[j]?=some oj->ss[j]?=some sj->clash ops o oj s sj=true->L.getD j false=false:=fun j oj sj hij hoj hsj hcl=>by
   cases hjd:L.getD j false with
   | false=>rfl
   | true =>
    have:=TP hn hC j oj i hoj hij ((AL ho hij hio hoj hs hsj).2 hcl) (hC j oj hoj hjd)
    rw[this] at hif;cases hif
  have b7k:∀ q ∈ readsOf ops o,fE (fun j=>decide (j<i)) 0 (DY ops.toList ss) (aY G) q=fE (fun j=>L.getD j false) 0 (DY ops.toList ss) (aY G) q:=fun q hq=>zF _ 0 _ _ rfl (fun j u hu hr=>by
   obtain⟨oj,sj,h1,h2,rfl⟩:=a5z hu
   have hdj:=VA hr
   have h1':ops[j]?=some oj:=by simpa using h1
   rw[tu]
   by_cases hji:j<i
   ·simp only[hji,decide_true]
    exact(a5u j oj sj hji h1' h2 (by simp[clash,a2j hdj hq])).symm
   ·simp only[hji,decide_false]
    by_cases e:j=i
    ·rw[e];exact hif.symm
    ·exact(a0u j oj sj (by omega) h1' h2 (by simp[clash,a2j hdj hq])).symm)
  have b0g:∀ r ∈ s.touch,fE (fun j=>decide (j<i)) 0 (zX ss) (aS R) r=fE (fun j=>L.getD j false) 0 (zX ss) (aS R) r:=fun r hr=>zF _ 0 _ _ rfl (fun j u hu hr'=>by
   obtain⟨sj,h2,rfl⟩:=a5E hu
   have hjl:j<ops.size:=by rw[<-hlen'];exact(ql.1 h2).1
   have h1':ops[j]?=some ops[j]:=Ar hjl
   rw[tu]
   by_cases hji:j<i
   ·simp only[hji,decide_true]
    exact(a5u j _ sj hji h1' h2 (a4V (ZV hr' hr))).symm
   ·simp only[hji,decide_false]
    by_cases e:j=i
    ·rw[e];exact hif.symm
    ·exact(a0u j _ sj (by omega) h1' h2 (b3j (ZV hr' hr))).symm)
  have b6g:wK B (fE (fun j=>L.getD j false) 0 (DY ops.toList ss) (aY G)) (fE (fun j=>L.getD j false) 0 (zX ss) (aS R)) ops o=some (vi,s.k,s.l):=by
   rw[<-hone]
   refine(a2D b7k (fun q hq r hr=>b0g r ?_) (fun r hr=>b0g r ?_)).symm
   ·rw[b0h];exact Ac _ (Ac _ (zq.2 ⟨q,hq,hr⟩))
   ·rw[b0h];exact Ac _ (Bl _ (by rw[hr];simp))
  have b0e:fE (fun j=>(L.setIfInBounds i true).getD j false) 0 (zX ss) (aS R)=iC (fE (fun j=>L.getD j false) 0 (zX ss) (aS R)) s.l:=by
   refine EU _ 0 i _ (by unfold zX;rw[xk,hs];rfl) (by rw[tu];exact hif) (by rw[tu];exact vP hl) (fun j hj=>oI (by omega)) (fun r hr j v hv hij hr'=>?_)
   obtain⟨sj,h2,rfl⟩:=a5E hv
   have hjl:j<ops.size:=by rw[<-hlen'];exact(ql.1 h2).1
   have hjt:r ∈ sj.touch:=by
    obtain⟨sj',_,h3,_,_,h4⟩:=hat j ops[j] (by simp[hjl])
    rw[h2] at h3
    cases h3
    rw[h4];exact Bl _ hr'
   rw[tu]
   exact a0u j _ sj hij (Ar hjl) h2 (a4V (ZV hr hjt))
  have b7j:fE (fun j=>(L.setIfInBounds i true).getD j false) 0 (DY ops.toList ss) (aY G)=iC (fE (fun j=>L.getD j false) 0 (DY ops.toList ss) (aY G)) (a1i o.dst s.k):=by
   refine EU _ 0 i _ (by unfold DY;rw[List.getElem?_zipWith,hs];simp[hio]) (by rw[tu];exact hif) (by rw[tu];exact vP hl) (fun j hj=>oI (by omega)) (fun r hr j v hv hij hr'=>?_)
   obtain⟨oj,sj,h1,h2,rfl⟩:=a5z hv
   have h1':ops[j]?=some oj:=by simpa using h1
   have hd1:=VA hr
   have hd2:=VA hr'
   have:=(AL ho hij hio h1' hs h2).1
   simp[a1a,hd1,hd2] at this
  have hCl:OE ops (L.setIfInBounds i true):=by
   intro j oj hoj hj e he hb'
   have hset:∀ q,L.getD q false=true->(L.setIfInBounds i true).getD q false=true:=fun q hq=>by
    by_cases e1:i=q
    ·subst e1;rw[hif] at hq;cases hq
    ·rw[oI e1];exact hq
   by_cases e1:j=i
   ·subst e1
    rw[hio] at hoj
    cases hoj
    exact hset _ (oK e he hb')
   ·rw[oI (fun e2=>e1 e2.symm)] at hj
    exact hset _ (hC j oj hoj hj e he hb')
  unfold wpOp
  rw[hio]
  refine a2E hB b6g (hvi hv) m1 m2 (fun v w' E' n1 n2 n3 n4=>⟨by simpa using hL,hCl,E',n2.fix.trans m0,?_,?_⟩)
  ·rw[b0e,<-qL];exact n1
  ·rw[b0e,b7j,<-qL];exact m2.put n2 (YI b6g) n3 n4
 ·have hnew:∀ j,(Array.replicate ops.size false).getD j false=false:=fun j=>GY _ j
  have e1:∀ {α:Type} (us:List (List (Nat × α))) (f:Nat->α),fE (fun j=>(Array.replicate ops.size false).getD j false) 0 us f=f:=fun us f=>by
   funext r
   exact CJ us 0 f (fun j u _ _=>hnew _)
  rw[e1,e1]
  obtain⟨n1,n2⟩:=hM.grows (jo w.heap.size w).drew
  have hcl0:OE ops (Array.replicate ops.size false):=fun j o hj hj2=>by rw[hnew] at hj2;cases hj2
  exact⟨by simp,hcl0,E,rfl,n1,hf.size,hf.defers,fun s=>n2.wf _ (hf.wf s),fun s=>n2.holds _ _ (hf.wf s) (hf.holds s),hf.par⟩
end
end
end Go.Proofs.YtbkocjmmbkifjaaGreat
