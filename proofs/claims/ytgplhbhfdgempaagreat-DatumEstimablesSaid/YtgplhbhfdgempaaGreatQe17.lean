/-
  Lemmas for the theorem vestimables_holds, part 17 of 36.
-/
import Derived.Tactics
import Derived.Test.YtgplhbhfdgempaaGreatQe16
namespace Go.Proofs.YtgplhbhfdgempaaGreat
open Go Go.RowKit
theorem zl:type_of% @List.mem_append_left:=@List.mem_append_left
theorem Bf:type_of% @List.mem_append_right:=@List.mem_append_right
theorem Ar:type_of% @List.mem_flatMap:=@List.mem_flatMap
theorem uf:type_of% @Bool.or_eq_true:=@Bool.or_eq_true
section
set_option linter.unusedSimpArgs false
set_option linter.unusedVariables false
abbrev Gam:=List (Nat × K)
abbrev Rho:=List (Nat × Res)
def bT:Gam->Nat->K
 | [],_=>.any
 | (s,k)::G,q=>if q=s then k else bT G q
def aU:Rho->Nat->Res
 | [],_=>.none
 | (s,x)::R,q=>if q=s then x else aU R q
def b7b (r:Nat) (R:Rho):Rho:=R.filter fun p=>p.1 != r
theorem TT {r q:Nat} (h:q≠r):∀ (R:Rho),aU (b7b r R) q=aU R q
 | []=>rfl
 | (s,x)::R=>by
  unfold b7b
  rw[List.filter_cons]
  split
  ·simp only[aU]
   split
   ·rfl
   ·exact TT h R
  ·rename_i hs
   have hs:s=r:=by simpa using hs
   simp only[aU]
   rw[iq (by rw[hs];exact h)]
   exact TT h R
def aft (R:Rho):List (Nat × Res)->Rho
 | []=>R
 | q::l=>aft (q::b7b q.1 R) l
theorem TR:∀ (l:List (Nat × Res)) (R:Rho),aU (aft R l)=after (aU R) l
 | [],_=>rfl
 | (r,x)::l,R=>by
  rw[aft,TR l,after]
  congr 1
  funext q
  simp only[aU]
  unfold bV
  split
  ·rfl
  ·rename_i h;exact TT h R
def opK (G:Nat->K):Operand->K
 | .tmp s=>G s
 | .const v=>yX v
 | .func f=>.val (.clo f .unit) ()
 | .global _=>.any
def unW:K->K
 | .when _ k=>k
 | k=>k
def a9z:K->List Prop
 | .when b _=>[b=true]
 | _=>[]
def tmpsOf (op:Op):List Nat:=op.operands.toList.filterMap fun x=>match x with
 | .tmp s=>some s
 | _=>none
def kQ (ts:List Nat) (G:Nat->K) (s:Nat):K:=if ts.contains s then G s else .any
def keepW (op:Op) (s:Nat):Bool:=match op with
 | .pick (.tmp c) _ _=>c != s
 | _=>false
def unG (op:Op) (G:Nat->K) (s:Nat):K:=if keepW op s then G s else unW (G s)
def OQ (op:Op) (s:Nat) (k:K):List Prop:=if keepW op s then [] else a9z k
structure Book where
 P:Program
 C:FuncId->List Ctr
 T:Told
 N:Nat
 keep:Nat->Bool
def Book.Ok (B:Book):Prop:=(∀ g,∀ c ∈ B.C g,aW B.P g c)/\∀ g,∀ c ∈ B.T.nc g,NOk B.P g c
def eqb (c b:Bool):Bool:=c==b
def a9F (B:Book):Option Nat->Bool
 | some d=>decide (d<B.N)&&!B.keep d
 | none=>true
def a9Y (g:Bool):List Prop->List Prop
 | []=>[]
 | p::ps=>[g=true->bY (p::ps)]
theorem a7S {g:Bool} {l:List Prop} (h:bY (a9Y g l)) (hg:g=true):bY l:=by
 cases l with
 | nil=>trivial
 | cons p ps=>exact h.1 hg
def gdK (b:Bool):K->Option Bool
 | .val .bool c=>some (eqb c b)
 | .when r (.val .bool c)=>some (r&&eqb c b)
 | _=>none
def a2u (B:Book) (ρ:Nat->Res) (k:Operand->K) (d:Option Nat) (op:Op):MK:=match gOp B.P B.T k op with
 | some (vc,kk)=>some (vc,kk,[])
 | none=>qO B.P B.C B.T ρ k d op
def yJ (B:Book) (G:Nat->K) (ρ:Nat->Res) (ops:Array Oper) (o:Oper):MK:=if a9F B o.dst then (match o.guard with
 | none=>qO B.P B.C B.T ρ (opK (kQ (tmpsOf o.op) G)) o.dst o.op
 | some (j,b)=>match (ops[j]?).bind (·.dst) with
  | some s=>match gdK b (G s) with
   | some g=>match a2u B ρ (opK (kQ (tmpsOf o.op) (unG o.op G))) o.dst o.op with
    | some (vc,k,[])=>some (a9Y g ((tmpsOf o.op).flatMap (fun s=>OQ o.op s (G s))++vc),.when g k,[])
    | _=>none
   | none=>none
  | none=>none) else none
def a1A (d:Option Nat) (k:K):List (Nat × K):=match d with
 | some d=>[(d,k)]
 | none=>[]
def jJ {α:Type} (f:Nat->α):List (Nat × α)->Nat->α
 | []=>f
 | (r,x)::l=>jJ (bV f r x) l
theorem sG:∀ (l:List (Nat × Res)) (ρ:Nat->Res),after ρ l=jJ ρ l
 | [],_=>rfl
 | (_,_)::l,_=>sG l _
def b4u (d:Option Nat) (k:K) (G:Gam):Gam:=match d with
 | some d=>(d,k)::G
 | none=>G
theorem xR (G:Gam) (d:Option Nat) (k:K):bT (b4u d k G)=jJ (bT G) (a1A d k):=by
 cases d with
 | none=>rfl
 | some d =>
  funext q
  show bT ((d,k)::G) q=bV (bT G) d k q
  simp only[bT]
  unfold bV
  split
  ·rfl
  ·rfl
structure Fits (E:Env) (ρ:Nat->Res) (w:World) (B:Book) (a:Act) (G:Nat->K):Prop where
 size:a.tmps.size=B.N
 defers:a.defers=[]
 wf:∀ s,(G s).wf ρ
 holds:∀ s,(G s).holds E ρ w (a.eval (.tmp s))
 par:∀ s,B.keep s=true->a.eval (.tmp s)=E.par s
section
variable {B:Book} {E:Env} {ρ:Nat->Res} {W w:World} {G:Nat->K} {a:Act}
theorem b1o {c:Bool} {ka kb k:K} {vc:List Prop} (h:nD c ka kb=some (vc,k)):k.wf ρ:=by
 cases ka<;>try (simp[nD] at h;done)
 case val t x =>
  cases kb<;>try (simp[nD] at h;done)
  case val t' y =>
   simp only[nD,je,dh] at h
   obtain⟨y',h1,rfl,rfl⟩:=h
   trivial
  case when b kb =>
   cases kb<;>try (simp[nD] at h;done)
   case val t' y =>
    simp only[nD,je,dh] at h
    obtain⟨y',h1,rfl,rfl⟩:=h
    trivial
 case when b ka =>
  cases ka<;>try (simp[nD] at h;done)
  case val t x =>
   cases kb<;>try (simp[nD] at h;done)
   case val t' y =>
    simp only[nD,je,dh] at h
    obtain⟨y',h1,rfl,rfl⟩:=h
    trivial
   case when b' kb =>
    cases kb<;>try (simp[nD] at h;done)
    case val t' y =>
     simp only[nD,je,dh] at h
     obtain⟨y',h1,rfl,rfl⟩:=h
     trivial
def K.isVal:K->Bool
 | .val _ _=>true
 | _=>false
theorem KO {k:K} (h:k.isVal=true):k.wf ρ:=by cases k<;>simp_all [K.isVal];trivial
theorem b0y {op:BinOp} {k:IntKind} {a b:Int} {vc:List Prop} {kk:K} (h:b0x op k a b=some (vc,kk)):kk.isVal=true:=by
 cases op<;>simp only[b0x,ah,dh] at h<;>first|(cases h;done)|(obtain⟨_,rfl⟩:=h;rfl)
theorem b3p {op:BinOp} {a b:Bool} {vc:List Prop} {kk:K} (h:eqB op a b=some (vc,kk)):kk.isVal=true:=by
 cases op<;>simp only[eqB,ah,dh] at h<;>first|(cases h;done)|(obtain⟨_,rfl⟩:=h;rfl)
theorem TI {r:Bool} {P:Program} {s:TypeId} {i:Nat} {ty:Ty} {y:ty.den} {vc:List Prop} {kk:K} (h:CJ r P s i ty y=some (vc,kk)):kk.isVal=true:=by
 unfold CJ at h
 split at h<;>try(cases h;done)
 split at h<;>try(cases h;done)
 simp only[ah,dh] at h
 obtain⟨_,rfl⟩:=h
 cases r<;>rfl
theorem ZA {P:Program} {k:Operand->K} {op:Op} {vc:List Prop} {kk:K} (h:gI P k op=some (vc,kk)) (hw:∀ x,(k x).wf ρ):kk.wf ρ:=by
 cases op<;>try (simp[gI] at h;done)
 case move x=>simp only[gI,ah,dh] at h;rw[<-h.2];exact hw x
 case assign x=>simp only[gI,ah,dh] at h;rw[<-h.2];exact hw x
 case pick c a b =>
  simp only[gI] at h
  split at h<;>first|(cases h;done)|exact b1o h
 case call c =>
  obtain⟨cl,xs,ts⟩:=c
  cases cl<;>try (simp[gI] at h;done)
  rename_i bi
  cases bi<;>try (simp[gI] at h;done)
  simp only[gI] at h
  (repeat' split at h)<;>first|(cases h;done)|(simp only[NS,b6N,ah,dh] at h;rw[<-h.2];trivial)
 case unOp op t x =>
  cases op<;>simp only[gI] at h<;>try(cases h;done)
  all_goals (split at h<;>first|(cases h;done)|(simp only[b6Z,b6W,ZW,ah,dh] at h;rw[<-h.2];trivial))
 case binOp op t x y yt =>
  simp only[gI] at h
  split at h<;>try(cases h;done)
  ·split at h<;>first|(cases h;done)|exact KO (b0y h)
  ·split at h<;>first|(cases h;done)|exact KO (b3p h)
  ·split at h<;>first|(cases h;done)|(rename_i hb;cases op<;>simp only[b4g,ah,dh] at h<;>first|(cases h;done)|(rw[<-h.2];trivial))
 case extract x i =>
  simp only[gI] at h
  split at h<;>try(cases h;done)
  ·split at h<;>first|(cases h;done)|(simp only[ah,dh] at h;rw[<-h.2];trivial)
  ·rename_i ks hkx
   have hwx:=hw x
   rw[hkx] at hwx
   split at h<;>first|(cases h;done)|(simp only[ah,dh] at h;rw[<-h.2])
   rename_i e
   exact a0V.1 (hwx _ (Cm e))
 case field s x i =>
  simp only[gI] at h
  split at h<;>first|(cases h;done)|exact KO (TI h)
 case fieldAddr s x i =>
  simp only[gI] at h
  split at h<;>first|(cases h;done)|exact KO (TI h)
 all_goals
  simp only[gI] at h
  (repeat' split at h)<;>first|(cases h;done)|(simp only[JZ,a5Z,b3K,ZW,ah,dh] at h;rw[<-h.2];trivial)
theorem a7I (v:Value):(yX v).wf ρ:=by unfold yX;split<;>trivial
theorem UZ (hf:Fits E ρ w B a G):(∀ x,(opK G x).wf ρ)/\∀ x,(opK G x).holds E ρ w (a.eval x):=by
 constructor
 ·intro x
  cases x with
  | tmp s=>exact hf.wf s
  | const v=>exact a7I v
  | func f=>trivial
  | global g=>trivial
 ·intro x
  cases x with
  | tmp s=>exact hf.holds s
  | const v=>exact a7H v
  | func f=>exact⟨[.func (.func f) #[] #[]],rfl,[],rfl,rfl⟩
  | global g=>trivial
theorem Fits.put {E':Env} {ρ':Nat->Res} {w':World} {o:Oper} {k:K} {v:Value} (hf:Fits E ρ w B a G) (hx:Ext E ρ w E' ρ' w') (hd:a9F B o.dst=true) (hw:k.wf ρ') (hk:k.holds E' ρ' w' v):Fits E' ρ' w' B (a.put o.dst v) (jJ G (a1A o.dst k)):=by
 cases hod:o.dst with
 | none=>exact⟨hf.size,hf.defers,fun s=>hx.wf _ (hf.wf s),fun s=>hx.holds _ _ (hf.wf s) (hf.holds s),fun s hs=>by rw[hx.par];exact hf.par s hs⟩
 | some d =>
  rw[hod] at hd
  have hd:d<B.N/\B.keep d=false:=by simpa [a9F] using hd
  obtain⟨hd,hkd⟩:=hd
  refine⟨by simpa [Act.put] using hf.size,hf.defers,fun s=>?_,fun s=>?_,fun s hs=>?_⟩
  ·show K.wf ρ' (bV G d k s)
   unfold bV
   split
   ·exact hw
   ·exact hx.wf _ (hf.wf s)
  ·show K.holds E' ρ' w' (bV G d k s) _
   unfold bV
   split
   ·rename_i e
    subst e
    have:(a.put (some s) v).eval (.tmp s)=v:=by
     have hs9:=hf.size
     have hs8:s<a.tmps.size:=by rw[hs9];exact hd
     simp[Act.put,Act.eval,ku,hs8]
    rw[this];exact hk
   ·rename_i e
    have:(a.put (some d) v).eval (.tmp s)=a.eval (.tmp s):=by
     simp[Act.put,Act.eval,ku,Array.getElem?_setIfInBounds,show ¬ d=s from fun e'=>e e'.symm]
    rw[this];exact hx.holds _ _ (hf.wf s) (hf.holds s)
  ·have e:¬ d=s:=fun e=>by subst e;rw[hkd] at hs;cases hs
   have:(a.put (some d) v).eval (.tmp s)=a.eval (.tmp s):=by
    simp[Act.put,Act.eval,ku,Array.getElem?_setIfInBounds,e]
   rw[this,hx.par];exact hf.par s hs
theorem c0w {k:K} (h:k.wf ρ) (hc:bY (a9z k)):(unW k).wf ρ:=by cases k<;>first|exact h|exact h hc.1
theorem a8N {k:K} {v:Value} (h:k.holds E ρ w v) (hc:bY (a9z k)):(unW k).holds E ρ w v:=by cases k<;>first|exact h|exact h.1 hc.1
theorem RS {l:List Prop} (h:bY l) {p:Prop} (hp:p ∈ l):p:=by
 induction l with
 | nil=>cases hp
 | cons q l ih =>
  rcases uo.1 hp with rfl|hp
  ·exact h.1
  ·exact ih h.2 hp
theorem MI {f:Nat->List Prop}:∀ {l:List Nat} {s:Nat},bY (l.flatMap f)->s ∈ l->bY (f s)
 | x::l,s,h,hs=>by
  rw[List.flatMap_cons] at h
  obtain⟨h1,h2⟩:=cO.1 h
  rcases uo.1 hs with rfl|hs
  ·exact h1
  ·exact MI h2 hs
theorem a8m {ts:List Nat} (hf:Fits E ρ w B a G):Fits E ρ w B a (kQ ts G):=by
 refine⟨hf.size,hf.defers,fun s=>?_,fun s=>?_,hf.par⟩
 ·unfold kQ;split
  ·exact hf.wf s
  ·trivial
 ·unfold kQ;split
  ·exact hf.holds s
  ·trivial
theorem a4L {ts:List Nat} {op:Op} (hf:Fits E ρ w B a G) (hc:bY (ts.flatMap fun s=>OQ op s (G s))):Fits E ρ w B a (kQ ts (unG op G)):=by
 refine⟨hf.size,hf.defers,fun s=>?_,fun s=>?_,hf.par⟩
 ·unfold kQ;split
  ·rename_i hs
   have hc:=MI hc (show s ∈ ts by simpa using hs)
   unfold unG;unfold OQ at hc
   split
   ·exact hf.wf s
   ·rename_i hk;rw[iq hk] at hc;exact c0w (hf.wf s) hc
  ·trivial
 ·unfold kQ;split
  ·rename_i hs
   have hc:=MI hc (show s ∈ ts by simpa using hs)
   unfold unG;unfold OQ at hc
   split
   ·exact hf.holds s
   ·rename_i hk;rw[iq hk] at hc;exact a8N (hf.holds s) hc
  ·trivial
theorem a3f (hB:B.Ok) {ops:Array Oper} {o:Oper} {vc:List Prop} {kk:K} {l:List (Nat × Res)} (h:yJ B G ρ ops o=some (vc,kk,l)) (hv:bY vc) (hM:Mem E ρ W w) (hf:Fits E ρ w B a G)
  {next:Act->World->Prop} {Q:Exit->Act->World->Prop} (hn:∀ v w' E',Mem E' (after ρ l) W w'->Ext E ρ w E' (after ρ l) w'->kk.wf (after ρ l)->kk.holds E' (after ρ l) w' v->next (a.put o.dst v) w') :
  if Region.wanted o (yielded ops a.tmps) then o.wp B.P a w next Q\/(o.asks B.P a w/\LetsOut Q) else next (a.put o.dst undef) w:=by
 unfold yJ at h
 split at h<;>try(cases h;done)
 rename_i hd
 cases hg:o.guard with
 | none =>
  simp only[hg] at h
  obtain⟨h1,h2⟩:=UZ (a8m (ts:=tmpsOf o.op) hf)
  have hw:Region.wanted o (yielded ops a.tmps)=true:=by simp[Region.wanted,hg]
  rw[ig hw]
  exact .inl (ZO hB.1 hB.2 h hv hM h1 h2 (fun vc' kk' hp=>ZA hp h1) next Q hn)
 | some jb =>
  obtain⟨j,b⟩:=jb
  simp only[hg] at h
  split at h<;>try(cases h;done)
  rename_i s hs
  split at h<;>try(cases h;done)
  rename_i g hks
  split at h<;>try(cases h;done)
  rename_i vc1 k1 hst
  simp only[ah,dh] at h
  obtain⟨rfl,rfl,rfl⟩:=h
  have hwn:Region.wanted o (yielded ops a.tmps)=g:=by
   have hsv:=hf.holds s
   have hv1:∀ c:Bool,a.tmps.getD s undef=.bool c->Region.wanted o (yielded ops a.tmps)=eqb c b:=fun c h1=>by
    have ht:a.tmps[s]?=some (.bool c):=by
     rw[ku] at h1
     cases h2:a.tmps[s]? with
     | none=>rw[h2] at h1;cases h1
     | some v=>rw[h2] at h1;exact xw some h1
    simp[Region.wanted,hg,yielded,hs,ht]
    rfl
   have hv2:a.tmps.getD s undef=undef->Region.wanted o (yielded ops a.tmps)=false:=fun h1=>by
    rw[ku] at h1
    cases h2:a.tmps[s]? with
    | none=>simp[Region.wanted,hg,yielded,hs,h2]
    | some v =>
     rw[h2] at h1
     have h1:v=undef:=h1
     subst h1
     simp[Region.wanted,hg,yielded,hs,h2]
     try first|rfl|(intro e;cases e;done)|(simp[undef];done)|(unfold undef;simp;done)
   unfold gdK at hks
   split at hks<;>first|(cases hks;done)|skip
   ·rename_i c hk
    rw[hk] at hsv
    have hsv:=tH hsv
    simp only[ah] at hks
    rw[<-hks];exact hv1 c hsv
   ·rename_i r c hk
    rw[hk] at hsv
    simp only[ah] at hks
    rw[<-hks]
    cases r with
    | true=>have hsv:=tH (hsv.1 rfl);exact hv1 c hsv
    | false=>exact hv2 (hsv.2 rfl)
  rw[hwn]
  by_cases hcb:g=true
  ·rw[ig hcb]
   obtain⟨hv1,hv2⟩:=cO.1 (a7S hv hcb)
   obtain⟨h1,h2⟩:=UZ (a4L hf hv1)
   unfold a2u at hst
   split at hst
   ·rename_i vc2 k2 hgo
    simp only[ah,dh] at hst
    obtain⟨rfl,rfl,_⟩:=hst
    exact .inl ((b6h hgo hv2 hM h2).steps next Q (fun v w' E' m1 m2 m3 m4=>hn v w' E' m1 m2 (fun _=>m3) ⟨fun _=>m4,fun e=>by rw[hcb] at e;cases e⟩))
   ·exact .inl (ZO hB.1 hB.2 hst hv2 hM h1 h2 (fun vc' kk' hp=>ZA hp h1) next Q (fun v w' E' m1 m2 m3 m4=>hn v w' E' m1 m2 (fun _=>m3) ⟨fun _=>m4,fun e=>by rw[hcb] at e;cases e⟩))
  ·rw[iq hcb]
   exact hn undef w E hM (Ext.refl _ _ _) (fun e=>absurd e hcb) ⟨fun e=>absurd e hcb,fun _=>rfl⟩
def zT (B:Book) (ops:Array Oper):List Oper->Gam->Rho->Option (List Prop × Gam × Rho)
 | [],G,R=>some ([],G,R)
 | o::rest,G,R=>match yJ B (bT G) (aU R) ops o with
  | some (vc,k,l)=>match zT B ops rest (b4u o.dst k G) (aft R l) with
   | some (vc',G',R')=>some (vc++vc',G',R')
   | none=>none
  | none=>none
theorem YW {ops:Array Oper} {o:Oper} {x:List Prop × K × List (Nat × Res)} (h:yJ B G ρ ops o=some x):a9F B o.dst=true:=by
 unfold yJ at h
 split at h
 ·assumption
 ·cases h
theorem ZK (hB:B.Ok) {ops:Array Oper} {Q:Exit->Act->World->Prop}:∀ {l:List Oper} {G:Gam} {R:Rho} {E:Env} {w:World} {a:Act} {vc:List Prop} {G':Gam} {R':Rho},zT B ops l G R=some (vc,G',R')->bY vc->Mem E (aU R) W w->Fits E (aU R) w B a (bT G) ->
  (∀ E' a' w',E'.fix=E.fix->Mem E' (aU R') W w'->Fits E' (aU R') w' B a' (bT G')->Q .normal a' w')->wpList B.P ops Q l a w
 | [],G,R,E,w,a,vc,G',R',h,hv,hM,hf,hq=>by
  simp only[zT,ah,dh] at h
  obtain⟨_,rfl,rfl⟩:=h
  exact hq E a w rfl hM hf
 | o::rest,G,R,E,w,a,vc,G',R',h,hv,hM,hf,hq=>by
  simp only[zT] at h
  split at h<;>try(cases h;done)
  rename_i vc1 k l1 h1
  split at h<;>try(cases h;done)
  rename_i vc2 G2 R2 h2
  simp only[ah,dh] at h
  obtain⟨rfl,rfl,rfl⟩:=h
  obtain⟨hv1,hv2⟩:=cO.1 hv
  exact a3f hB h1 hv1 hM hf (fun v w' E' m1 m2 m3 m4=>by
   rw[<-TR] at m1 m2 m3 m4
   exact ZK hB h2 hv2 m1 (by rw[xR];exact hf.put m2 (YW h1) m3 m4) (fun E2 a2 w2 hb2=>hq E2 a2 w2 (hb2.trans m2.fix)))
end
end
section
set_option linter.unusedSimpArgs false
set_option linter.unusedVariables false
set_option maxRecDepth 20000
theorem a8Q {P:Program} {md:Region.Mode} {ops:Array Oper} {Q:Exit->Act->World->Prop} (I:Array Bool->Act->World->Prop) (hd:uP md ops=true)
  (hend:∀ L a w,I L a w->(∀ i,i<ops.size->L.getD i true=true)->Q .normal a w)
  (hstep:∀ L a w i o,I L a w->ops[i]?=some o->L.getD i true=false->(∀ e ∈ o.after,Region.binds md e=true->L.getD e.on false=true)->wpOp P ops Q i (I (L.setIfInBounds i true)) a w) :
  ∀ fuel L a w,JK L<=fuel->I L a w->wpAny P md ops Q fuel L a w:=by
 intro fuel
 induction fuel with
 | zero =>
  intro L a w hu hI
  have hn:Region.ready md ops L=[]:=by
   cases hr:Region.ready md ops L with
   | nil=>rfl
   | cons i r =>
    exfalso
    obtain⟨o,_,h2,_⟩:=FB (by rw[hr];exact jk)
    have:=AA h2
    omega
  exact⟨hn,hend L a w hI (qC hd hn)⟩
 | succ fuel ih =>
  intro L a w hu hI
  refine⟨fun hn=>hend L a w hI (qC hd hn),fun i hi=>?_⟩
  obtain⟨o,h1,h2,h3⟩:=FB hi
  refine wpOp_mono (fun a' w' h'=>ih _ _ _ ?_ h') (hstep L a w i o hI h1 h2 h3)
  have:=AA h2
  omega
def UG:K0->List Nat
 | .val _ _=>[]
 | .own r _=>[r]
 | .ptr r _=>[r]
 | .nV r=>[r]
def K.res:K->List Nat
 | .ptr r _=>[r]
 | .own r _=>[r]
 | .when _ k=>k.res
 | .cell r _ _=>[r]
 | .mrow r _ _=>[r]
 | .mpos r _ _ _=>[r]
 | .nV r=>[r]
 | .mix ks=>ks.flatMap UG
 | .fn _ ks=>ks.flatMap UG
 | .sng r _=>[r]
 | _=>[]
def c0s:Res->List Nat
 | .mX k=>k.res
 | _=>[]
def qU (ρ:Nat->Res) (k:K):List Nat:=k.res++k.res.flatMap fun r=>c0s (ρ r)
section
variable {P:Program} {C:FuncId->List Ctr} {T:Told} {ρ ρ':Nat->Res}
theorem wE {α:Type} {f g:Nat->α} {r:Nat} (h:f r=g r):∀ (l:List (Nat × α)),jJ f l r=jJ g l r
 | []=>h
 | (q,x)::l=>by
  simp only[jJ]
  refine wE ?_ l
  unfold bV;split
  ·rfl
  ·exact h
theorem lK {α:Type} {r:Nat}:∀ (l:List (Nat × α)) (f:Nat->α),r ∉ l.map (·.1)->jJ f l r=f r
 | [],_,_=>rfl
 | (q,x)::l,f,h=>by
  simp only[yx,uo,not_or] at h
  simp only[jJ]
  rw[lK l _ h.2,aP _ _ h.1]
theorem OJ {k:K} (h:∀ r ∈ k.res,ρ r=ρ' r):wF ρ k=wF ρ' k:=by
 cases k<;>try rfl
 ·rename_i r v
  simp only[wF,h r (by simp[K.res])]
 ·rename_i r v i
  simp only[wF,h r (by simp[K.res])]
theorem rD {k:K} {t:Option Ty} (h:∀ r ∈ k.res,ρ r=ρ' r):yT ρ t k=yT ρ' t k:=by
 cases k<;>first|rfl|exact OJ h
theorem a5r {k:K} {t:Option Ty} (h:∀ r ∈ k.res,ρ r=ρ' r):a5q ρ t k=a5q ρ' t k:=by
 have:XG ρ k=XG ρ' k:=by
  cases k<;>try rfl
  ·rename_i t x;cases t<;>rfl
  ·rename_i r v
   simp only[XG,h r (by simp[K.res])]
  ·rename_i r v i
   simp only[XG,h r (by simp[K.res])]
 unfold a5q
 rw[this,rD h]
theorem OI {t:Option Ty}:∀ {ks:List K} {ρ ρ':Nat->Res},(∀ k ∈ ks,∀ r ∈ k.res,ρ r=ρ' r)->GK ρ t ks=GK ρ' t ks
 | [],_,_,_=>rfl
 | k::ks,ρ,ρ',h=>by
  simp only[GK,rD (h k (jk ..))]
  split
  ·rename_i p l _
   rw[OI (ρ:=after ρ l) (ρ':=after ρ' l) (fun k' hk' r hr=>by rw[sG,sG];exact wE (h k' (jf _ hk') r hr) l)]
  ·rfl
theorem BM:∀ {ts:List Ty} {ks:List K} {ρ ρ':Nat->Res},(∀ k ∈ ks,∀ r ∈ k.res,ρ r=ρ' r)->BL ρ ts ks=BL ρ' ts ks
 | [],[],_,_,_=>rfl
 | [],_::_,_,_,_=>rfl
 | _::_,[],_,_,_=>rfl
 | t::ts,k::ks,ρ,ρ',h=>by
  simp only[BL,rD (h k (jk ..))]
  split
  ·rename_i p l _
   rw[BM (ρ:=after ρ l) (ρ':=after ρ' l) (fun k' hk' r hr=>by rw[sG,sG];exact wE (h k' (jf _ hk') r hr) l)]
  ·rfl
theorem a1T {k:Operand->K} {d:Option Nat} {op:Op} (hk:∀ x,∀ r ∈ (k x).res,ρ r=ρ' r) (hd:∀ r,d=some r->ρ r=ρ' r):sJ P T ρ k d op=sJ P T ρ' k d op:=by
 cases op<;>try rfl
 case alloc t =>
  simp only[sJ]
  split
  ·rw[hd _ (by first|assumption|rfl)]
  ·rfl
 case box t x =>
  simp only[sJ,rD (hk x)]
  split
  ·rw[hd _ (by first|assumption|rfl)]
  ·rfl
 case load t x =>
  simp only[sJ]
  split
  ·rename_i r o hx;rw[hk x r (by rw[hx];simp[K.res])]
  ·rfl
 case store t x y =>
  simp only[sJ,rD (hk y)]
  split
  ·rename_i r o _ _ hx _;rw[hk x r (by rw[hx];simp[K.res])]
  ·rfl
 case fieldAddr s x i =>
  simp only[sJ]
  split
  ·rename_i r o hx;rw[hk x r (by rw[hx];simp[K.res])]
  ·rfl
 case indexAddr s x i =>
  simp only[sJ]
  split
  ·rename_i r o _ _ hx _;rw[hk x r (by rw[hx];simp[K.res])]
  ·rfl
theorem a3w {k:Operand->K} {d:Option Nat} {op:Op} (hk:∀ x,∀ r ∈ (k x).res,ρ r=ρ' r) (hd:∀ r,d=some r->ρ r=ρ' r):DV P T ρ k d op=DV P T ρ' k d op:=by
 cases op<;>try rfl
 case buildSlice t len parts =>
  simp only[DV]
  have h1:GK ρ (a2g P T t) (parts.toList.map fun q=>k q.2)=GK ρ' (a2g P T t) (parts.toList.map fun q=>k q.2):=OI (fun k' hk' r hr=>by
   obtain⟨q,_,rfl⟩:=ug.1 hk'
   exact hk q.2 r hr)
  rw[h1]
  split
  ·split
   ·split
    ·split
     ·rw[hd _ (by first|assumption|rfl)]
     ·rfl
    ·rfl
   ·rfl
   ·rfl
  ·rfl
 case call c =>
  obtain⟨cl,xs,ts⟩:=c
  cases cl<;>try rfl
  rename_i bi
  cases bi<;>try rfl
  simp only[DV]
  split
  ·rename_i s x t t' _ _
   split
   ·simp only[a5r (hk x)]
    split
    ·rename_i r v hs;rw[hk s r (by rw[hs];simp[K.res])]
    ·split
     ·rw[hd _ (by first|assumption|rfl)]
     ·rfl
    ·rfl
   ·rfl
  ·rfl
theorem DT {k:K} {r:Nat} (h:r ∈ k.res):r ∈ qU ρ k:=zl _ h
theorem b1G {k k':K} {r q:Nat} (h:r ∈ k.res) (hr:ρ r=.mX k') (hq:q ∈ k'.res):q ∈ qU ρ k:=Bf _ (Ar.2 ⟨r,h,by rw[hr];exact hq⟩)
theorem EI {k:K} {t:Option Ty} (h:∀ r ∈ k.res,ρ r=ρ' r):vZ ρ t k=vZ ρ' t k:=by
 cases k<;>try rfl
 ·rename_i r v
  simp only[vZ,h r (by simp[K.res])]
 ·rename_i r v i
  simp only[vZ,h r (by simp[K.res])]
theorem PZ {k:K} {t:Option Ty} (h:∀ r ∈ qU ρ k,ρ r=ρ' r):GZ ρ t k=GZ ρ' t k:=by
 have h0:∀ r ∈ k.res,ρ r=ρ' r:=fun r hr=>h r (DT hr)
 cases k
 case ptr r o=>simp only[GZ,h0 r (by simp[K.res])]
 case nV r =>
  simp only[GZ,<-h0 r (by simp[K.res])]
  split
  ·rename_i k9 hr
   split
   ·rw[EI (ρ:=ρ) (ρ':=ρ') (fun q hq=>h q (b1G (k:=.nV r) (by simp[K.res]) hr hq))]
   ·rfl
  ·rfl
 all_goals exact EI (t:=t) h0
theorem b6H (k:K0):(k0K k).res=UG k:=by cases k<;>rfl
theorem EH:∀ {u:Ty} {ks:List K0},(∀ k ∈ ks,∀ r ∈ qU ρ (k0K k),ρ r=ρ' r)->iU ρ u ks=iU ρ' u ks
 | .unit,[],_=>rfl
 | .pair a b,k::ks,h=>by
  simp only[iU]
  rw[PZ (h k (jk ..)),EH (fun k' hk'=>h k' (jf _ hk'))]
 | .unit,_::_,_=>rfl
 | .pair _ _,[],_=>rfl
 | .bool,_,_=>rfl
 | .int _,_,_=>rfl
 | .lf _,_,_=>rfl
 | .list _,_,_=>rfl
 | .arr _ _,_,_=>rfl
 | .ref _,_,_=>rfl
 | .clo _ _,_,_=>rfl
 | .nls _,_,_=>rfl
theorem a6Z {g:FuncId} {ks:List K0} {k:K0} {r:Nat} (hk:k ∈ ks) (h:r ∈ qU ρ (k0K k)):r ∈ qU ρ (.fn g ks):=by
 have h1:∀ q ∈ (k0K k).res,q ∈ (K.fn g ks).res:=fun q hq=>Ar.2 ⟨k,hk,by rw[<-b6H];exact hq⟩
 rcases vg.1 h with h|h
 ·exact DT (h1 r h)
 ·obtain⟨q,hq,h⟩:=Ar.1 h
  exact Bf _ (Ar.2 ⟨q,h1 q hq,h⟩)
theorem a3S {k:K} {t:Ty} (h:∀ r ∈ qU ρ k,ρ r=ρ' r):WJ ρ t k=WJ ρ' t k:=by
 cases k
 case fn g ks =>
  simp only[WJ]
  split
  ·rw[EH (fun k hk r hr=>h r (a6Z hk hr))]
  ·rfl
 all_goals exact PZ (t:=some t) h
theorem vY:∀ {ts:List Ty} {ks:List K},(∀ k ∈ ks,∀ r ∈ qU ρ k,ρ r=ρ' r)->oV ρ ts ks=oV ρ' ts ks
 | [],[],_=>rfl
 | [],_::_,_=>rfl
 | _::_,[],_=>rfl
 | t::ts,k::ks,h=>by
  simp only[oV]
  rw[a3S (h k (jk ..)),vY (fun k' hk'=>h k' (jf _ hk'))]
theorem BQ {ks:List K} (h:∀ k ∈ ks,∀ r ∈ qU ρ k,ρ r=ρ' r):∀ cs:List Ctr,GL ρ ks cs=GL ρ' ks cs
 | []=>rfl
 | c::cs=>by
  have e:a1P ρ c ks=a1P ρ' c ks:=by
   unfold a1P
   rw[vY h,BM (fun k hk r hr=>h k hk r (DT hr))]
  simp only[GL]
  rw[e,BQ h cs]
theorem a0s {k:Operand->K} {op:Op} (hk:∀ x,∀ r ∈ qU ρ (k x),ρ r=ρ' r):wX P C ρ k op=wX P C ρ' k op:=by
 cases op<;>try rfl
 case makeFunc fn first caps=>cases fn<;>rfl
 case call c =>
  obtain⟨cl,xs,ts⟩:=c
  cases cl<;>try rfl
  rename_i f
  simp only[wX]
  have hcap:∀ (t:Ty) (x:t.den) (k':K),k' ∈ a1U t x->k'.res=[]:=by
   intro t
   induction t with
   | pair a b _ ih =>
    intro x k' h
    rcases uo.1 h with rfl|h
    ·rfl
    ·exact ih x.2 k' h
   | _=>intro x k' h;cases h
  split
  ·rename_i g t cx hf
   rw[BQ (fun k' hk' r hr=>by
    rcases vg.1 hk' with h|h
    ·obtain⟨q,_,rfl⟩:=ug.1 h;exact hk q r hr
    ·exfalso
     unfold qU at hr
     rw[hcap t cx k' h] at hr
     simp at hr)]
  ·rename_i g l hf
   rw[BQ (fun k' hk' r hr=>by
    rcases vg.1 hk' with h|h
    ·obtain⟨q,_,rfl⟩:=ug.1 h;exact hk q r hr
    ·obtain⟨q,hq,rfl⟩:=ug.1 h
     exact hk f r (by rw[hf];exact a6Z hq hr))]
  ·rfl
theorem a5b {k:Operand->K} {op:Op} (hk:∀ x,∀ r ∈ (k x).res,ρ r=ρ' r):OA P ρ k op=OA P ρ' k op:=by
 cases op<;>try rfl
 case indexAddr s x i =>
  simp only[OA]
  split
  ·rename_i r v _ _ hx _;rw[hk x r (by rw[hx];simp[K.res])]
  ·rename_i r v _ _ _ hx _;rw[hk x r (by rw[hx];simp[K.res])]
  ·rfl
 case load t x =>
  simp only[OA]
  split
  ·rename_i r v _ hx;rw[hk x r (by rw[hx];simp[K.res])]
  ·rename_i r v _ _ hx;rw[hk x r (by rw[hx];simp[K.res])]
  ·rename_i r hx;rw[hk x r (by rw[hx];simp[K.res])]
  ·rfl
 case call c =>
  obtain⟨cl,xs,ts⟩:=c
  cases cl<;>try rfl
  rename_i bi
  cases bi<;>try rfl
  simp only[OA]
  split
  ·rename_i x t _ _
   split
   ·split
    ·rename_i r v hx;rw[hk x r (by rw[hx];simp[K.res])]
    ·rename_i r v _ hx;rw[hk x r (by rw[hx];simp[K.res])]
    ·rfl
   ·rfl
  ·rfl
theorem a5C {k:Operand->K} {d:Option Nat} {op:Op} (hk:∀ x,∀ r ∈ (k x).res,ρ r=ρ' r) (hd:∀ r,d=some r->ρ r=ρ' r):a1F P T ρ k d op=a1F P T ρ' k d op:=by
 cases op<;>try rfl
 case store t x y =>
  have hown:ownB ρ (k y)=ownB ρ' (k y):=by
   cases hy:k y<;>try rfl
   rename_i r v
   simp only[ownB]
   rw[hk y r (by rw[hy];simp[K.res])]
  simp only[a1F,rD (hk y),hown]
  split
  ·rename_i r v i hx
   rw[hk x r (by rw[hx];simp[K.res])]
   split
   ·rfl
   ·split
    ·rfl
    ·rename_i r2 v2 hy
     rw[hk y r2 (by rw[hy];simp[K.res])]
    ·rfl
   ·rfl
  ·rename_i r v id i hx;rw[hk x r (by rw[hx];simp[K.res])]
  ·rename_i r hx;rw[hk x r (by rw[hx];simp[K.res])]
  ·rfl
 case makeSlice t n m =>
  simp only[a1F]
  split
  ·rw[hd _ (by first|assumption|rfl)]
  ·rfl
theorem a4E {k:Operand->K} {d:Option Nat} {op:Op} (hk:∀ x,∀ r ∈ (k x).res,ρ r=ρ' r) (hd:∀ r,d=some r->ρ r=ρ' r):UR P T ρ k d op=UR P T ρ' k d op:=by
 cases op<;>try rfl
 case buildSlice t len parts =>
  simp only[UR]
  split<;>try rfl
  rename_i r
  split<;>try rfl
  split<;>try rfl
  split<;>try rfl
  split
  ·rw[hd _ (by first|assumption|rfl)]
  ·rename_i y _
   split
   ·rename_i r2 v2 hy;rw[hk y r2 (by rw[hy];simp[K.res])]
   ·rfl
  ·rfl
 case call c =>
  obtain⟨cl,xs,ts⟩:=c
  cases cl<;>try rfl
  rename_i bi
  cases bi<;>try rfl
  simp only[UR]
  split
  ·rename_i s x t t' _ _
   split
   ·split
    ·rename_i r2 v2 hx
     rw[hk x r2 (by rw[hx];simp[K.res])]
     split
     ·split
      ·rename_i r v hs;rw[hk s r (by rw[hs];simp[K.res])]
      ·rw[hd _ (by first|assumption|rfl)]
      ·rfl
     ·rfl
    ·rfl
   ·rfl
  ·rfl
theorem PY {r:Nat} {row:Option Nat}:∀ {ts:List Ty} {ks:List K},(∀ k ∈ ks,∀ q ∈ k.res,ρ q=ρ' q)->MC ρ r row ts ks=MC ρ' r row ts ks
 | [],[],_=>rfl
 | [],_::_,_=>rfl
 | _::_,[],_=>rfl
 | t::ts,k::ks,h=>by
  simp only[MC]
  rw[EI (h k (jk ..)),PY (fun k' hk'=>h k' (jf _ hk'))]
theorem a2Q {k:LK} {k0:K} (h:∀ q ∈ k0.res,ρ q=ρ' q):a6w ρ k k0=a6w ρ' k k0:=by
 cases k with
 | row e t =>
  cases k0<;>try rfl
  case own r v=>exact xw (QU e t r v) (h r (by simp[K.res]))
  case mrow r v i=>exact xw (QT e t r v i) (h r (by simp[K.res]))
 | mat e e2 t =>
  cases k0<;>try rfl
  case own r v=>exact xw (QS e e2 t r v) (h r (by simp[K.res]))
theorem JR {d:Option Nat} {ks:List K} (h:∀ k ∈ ks,∀ r ∈ qU ρ k,ρ r=ρ' r) (hd:∀ r,d=some r->ρ r=ρ' r):∀ cs:List BJ,BR ρ d ks cs=BR ρ' d ks cs
 | []=>rfl
 | c::cs=>by
  have e:IG ρ d ks c=IG ρ' d ks c:=by
   cases c with
   | mk k args pre made =>
    simp only[IG]
    split
    ·rw[hd _ (by first|assumption|rfl),vY h]
    ·rfl
   | chg k args res pre out fn =>
    cases ks with
    | nil=>rfl
    | cons k0 ks =>
     have h0:∀ k ∈ k0::ks,∀ r ∈ k.res,ρ r=ρ' r:=fun k hk r hr=>h k hk r (DT hr)
     simp only[IG]
     rw[a2Q (h0 k0 (jk ..)),BM (fun k hk=>h0 k (jf _ hk))]
     simp only[PY (ρ:=ρ) (ρ':=ρ') (ks:=ks) (fun k hk=>h0 k (jf _ hk))]
  simp only[BR]
  rw[e,JR h hd cs]
theorem a0r {k:Operand->K} {d:Option Nat} {op:Op} (hk:∀ x,∀ r ∈ qU ρ (k x),ρ r=ρ' r) (hd:∀ r,d=some r->ρ r=ρ' r):BU P T ρ k d op=BU P T ρ' k d op:=by
 cases op<;>try rfl
 case call c =>
  obtain⟨cl,xs,ts⟩:=c
  cases cl<;>try rfl
  rename_i f
  simp only[BU]
  have hcap:∀ (t:Ty) (x:t.den) (k':K),k' ∈ a1U t x->k'.res=[]:=by
   intro t
   induction t with
   | pair a b _ ih =>
    intro x k' h
    rcases uo.1 h with rfl|h
    ·rfl
    ·exact ih x.2 k' h
   | _=>intro x k' h;cases h
  split
  ·split
   ·refine JR (fun k9 hk9 r hr=>?_) hd _
    rcases vg.1 hk9 with hk9|hk9
    ·obtain⟨q,_,rfl⟩:=ug.1 hk9;exact hk q r hr
    ·exfalso
     unfold qU at hr
     rw[hcap _ _ _ hk9] at hr
     simp at hr
   ·rfl
  ·rfl
theorem a2t {k:Operand->K} {op:Op} (hk:∀ x,∀ r ∈ (k x).res,ρ r=ρ' r):YE P ρ k op=YE P ρ' k op:=by
 unfold YE
 split
 ·rename_i t s lo hi
  have h:=OJ (hk (.tmp s))
  split
  ·rename_i r v e
   rw[e] at h
   rw[h]
  ·rfl
 ·rfl
theorem a0x {k:Operand->K} {op:Op} (hk:∀ x,∀ r ∈ (k x).res,ρ r=ρ' r):wY P ρ k op=wY P ρ' k op:=by
 unfold wY
 split
 ·split
  ·split
   ·rename_i x y _ _ _ _ _ _ r v id ty1 ys hx hy
    rw[hk x r (by rw[hx];simp[K.res])]
   ·rfl
  ·rfl
 ·split
  ·split
   ·rename_i x y _ _ _ _ _ _ r v ty1 ys hx hy
    rw[hk x r (by rw[hx];simp[K.res])]
   ·rfl
  ·rfl
 ·rfl
theorem LX {k:Operand->K} {d:Option Nat} {op:Op} (hk:∀ x,∀ r ∈ qU ρ (k x),ρ r=ρ' r) (hd:∀ r,d=some r->ρ r=ρ' r):qO P C T ρ k d op=qO P C T ρ' k d op:=by
 have h0:∀ x,∀ r ∈ (k x).res,ρ r=ρ' r:=fun x r hr=>hk x r (DT hr)
 unfold qO
 rw[a1T h0 hd,a3w h0 hd,a5b h0,a5C h0 hd,a4E h0 hd,a2t h0,a0r hk hd,a0x h0,a0s hk]
end
def YG (ops:Array Oper) (o:Oper):Option Nat:=match o.guard with
 | some (j,_)=>(ops[j]?).bind (·.dst)
 | none=>none
def readsOf (ops:Array Oper) (o:Oper):List Nat:=tmpsOf o.op++(YG ops o).toList
theorem b2I (ρ:Nat->Res) (k:K):qU ρ (unW k)=qU ρ k:=by cases k<;>rfl
theorem VI (ρ:Nat->Res) (v:Value):qU ρ (yX v)=[]:=by unfold yX;split<;>rfl
def moveB:Op->Bool
 | .move _=>true
 | _=>false
theorem PU {P:Program} {C:FuncId->List Ctr} {T:Told} {ρ ρ':Nat->Res} {k:Operand->K} {d:Option Nat} {op:Op} (h:moveB op=true):qO P C T ρ k d op=qO P C T ρ' k d op:=by
 cases op<;>simp[moveB] at h
 rfl
def a3O (op:Op):List Nat:=if moveB op then [] else tmpsOf op
theorem a3e {B:Book} {G G':Nat->K} {ρ ρ':Nat->Res} {ops:Array Oper} {o:Oper} (hG:∀ s ∈ readsOf ops o,G s=G' s) (hρ:∀ s ∈ a3O o.op,∀ r ∈ qU ρ (G s),ρ r=ρ' r) (hd:∀ r,o.dst=some r->ρ r=ρ' r):yJ B G ρ ops o=yJ B G' ρ' ops o:=by
 have h1:kQ (tmpsOf o.op) G=kQ (tmpsOf o.op) G':=by
  funext s
  unfold kQ
  split
  ·rename_i h;exact hG s (zl _ (by simpa using h))
  ·rfl
 have h2:kQ (tmpsOf o.op) (unG o.op G)=kQ (tmpsOf o.op) (unG o.op G'):=by
  funext s
  unfold kQ
  split
  ·rename_i h;unfold unG;rw[hG s (zl _ (by simpa using h))]
  ·rfl
 have h3:(tmpsOf o.op).flatMap (fun s=>OQ o.op s (G s))=(tmpsOf o.op).flatMap (fun s=>OQ o.op s (G' s)):=by
  have:∀ l:List Nat,(∀ s ∈ l,G s=G' s)->l.flatMap (fun s=>OQ o.op s (G s))=l.flatMap (fun s=>OQ o.op s (G' s)):=by
   intro l
   induction l with
   | nil=>intro _;rfl
   | cons x l ih=>intro h;rw[List.flatMap_cons,List.flatMap_cons,h x (jk ..),ih (fun s hs=>h s (jf _ hs))]
  exact this _ (fun s hs=>hG s (zl _ hs))
 have k3:qO B.P B.C B.T ρ (opK (kQ (tmpsOf o.op) G')) o.dst o.op=qO B.P B.C B.T ρ' (opK (kQ (tmpsOf o.op) G')) o.dst o.op/\qO B.P B.C B.T ρ (opK (kQ (tmpsOf o.op) (unG o.op G'))) o.dst o.op=qO B.P B.C B.T ρ' (opK (kQ (tmpsOf o.op) (unG o.op G'))) o.dst o.op:=by
  by_cases hp:moveB o.op=true
  ·exact⟨PU hp,PU hp⟩
  unfold a3O at hρ
  rw[iq hp] at hρ
  have k1:∀ x,∀ r ∈ qU ρ (opK (kQ (tmpsOf o.op) G') x),ρ r=ρ' r:=by
   rw[<-h1]
   intro x r hr
   cases x with
   | tmp s =>
    have hr:r ∈ qU ρ (kQ (tmpsOf o.op) G s):=hr
    unfold kQ at hr
    split at hr
    ·rename_i h;exact hρ s (by simpa using h) r hr
    ·cases hr
   | const v=>exfalso;have hr:r ∈ qU ρ (yX v):=hr;rw[VI] at hr;cases hr
   | func f=>cases hr
   | global g=>cases hr
  have k2:∀ x,∀ r ∈ qU ρ (opK (kQ (tmpsOf o.op) (unG o.op G')) x),ρ r=ρ' r:=by
   rw[<-h2]
   intro x r hr
   cases x with
   | tmp s =>
    have hr:r ∈ qU ρ (kQ (tmpsOf o.op) (unG o.op G) s):=hr
    unfold kQ at hr
    split at hr
    ·rename_i h
     refine hρ s (by simpa using h) r ?_
     unfold unG at hr
     split at hr
     ·exact hr
     ·rw[<-b2I];exact hr
    ·cases hr
   | const v=>exfalso;have hr:r ∈ qU ρ (yX v):=hr;rw[VI] at hr;cases hr
   | func f=>cases hr
   | global g=>cases hr
  exact⟨LX k1 hd,LX k2 hd⟩
 have k4:a2u B ρ (opK (kQ (tmpsOf o.op) (unG o.op G'))) o.dst o.op=a2u B ρ' (opK (kQ (tmpsOf o.op) (unG o.op G'))) o.dst o.op:=by
  unfold a2u
  rw[k3.2]
 unfold yJ
 rw[h1,h2,h3,k3.1,k4]
 cases hg:o.guard with
 | none=>rfl
 | some jb =>
  obtain⟨j,b⟩:=jb
  simp only
  cases hs:(ops[j]?).bind (·.dst) with
  | none=>rfl
  | some s =>
   have:G s=G' s:=hG s (Bf _ (by simp[YG,hg,hs]))
   simp only[this]
end
section
set_option linter.unusedSimpArgs false
set_option linter.unusedVariables false
set_option maxRecDepth 20000
def gV {α:Type} (done:Nat->Bool):Nat->List (List (Nat × α))->(Nat->α)->Nat->α
 | _,[],f=>f
 | j,u::us,f=>gV done (j+1) us (if done j then jJ f u else f)
theorem CO {α:Type} {d d':Nat->Bool} {r:Nat}:∀ (us:List (List (Nat × α))) (b:Nat) (f g:Nat->α),f r=g r->(∀ j u,us[j]?=some u->r ∈ u.map (·.1)->d (b+j)=d' (b+j))->gV d b us f r=gV d' b us g r
 | [],b,f,g,h,_=>h
 | u::us,b,f,g,h,hd=>by
  simp only[gV]
  refine CO us (b+1) _ _ ?_ (fun j u' hu hr=>by have:=hd (j+1) u' hu hr;rwa [show b+(j+1)=b+1+j by omega] at this)
  by_cases hr:r ∈ u.map (·.1)
  ·have:=hd 0 u rfl hr
   rw[Nat.add_zero] at this
   rw[<-this]
   split
   ·exact wE h u
   ·exact h
  ·split<;>split<;>first
    | (rw[lK u _ hr,lK u _ hr];exact h)
    | (rw[lK u _ hr];exact h)
    |exact h
theorem EO {α:Type} {d:Nat->Bool} {r:Nat}:∀ (us:List (List (Nat × α))) (b:Nat) (f:Nat->α),(∀ j u,us[j]?=some u->r ∈ u.map (·.1)->d (b+j)=false)->gV d b us f r=f r
 | [],b,f,_=>rfl
 | u::us,b,f,hd=>by
  simp only[gV]
  rw[EO us (b+1) _ (fun j u' hu hr=>by have:=hd (j+1) u' hu hr;rwa [show b+(j+1)=b+1+j by omega] at this)]
  by_cases hr:r ∈ u.map (·.1)
  ·have:=hd 0 u rfl hr
   rw[Nat.add_zero] at this
   rw[this];rfl
  ·split
   ·exact lK u _ hr
   ·rfl
theorem XK {α:Type} {r:Nat}:∀ (l:List (Nat × α)) (f g:Nat->α),r ∈ l.map (·.1)->jJ f l r=jJ g l r
 | [],_,_,h=>by cases h
 | (q,x)::l,f,g,h=>by
  simp only[jJ]
  by_cases hr:r ∈ l.map (·.1)
  ·exact XK l _ _ hr
  ·rw[lK l _ hr,lK l _ hr]
   have:r=q:=by
    rcases uo.1 h with h|h
    ·exact h
    ·exact absurd h hr
   subst this
   rw[aG,aG]
theorem IU {α:Type} {d d':Nat->Bool} {u:List (Nat × α)}:∀ (us:List (List (Nat × α))) (b i:Nat) (f:Nat->α),us[i]?=some u->d (b+i)=false->d' (b+i)=true->(∀ j,j≠b+i->d' j=d j)->(∀ r ∈ u.map (·.1),∀ j v,us[j]?=some v->i<j->r ∈ v.map (·.1)->d (b+j)=false)->gV d' b us f=jJ (gV d b us f) u
 | v::us,b,0,f,hi,hd,hd',he,hn=>by
  simp only[List.getElem?_cons_zero,ah] at hi
  subst hi
  simp only[Nat.add_zero] at hd hd' he
  simp only[gV,hd,hd',Dn,zu,if_false]
  funext r
  have h1:gV d' (b+1) us (jJ f v) r=gV d (b+1) us (jJ f v) r:=CO us (b+1) _ _ rfl (fun j u' hu hr=>he _ (by omega))
  rw[h1]
  by_cases hr:r ∈ v.map (·.1)
  ·rw[EO us (b+1) _ (fun j u' hu hr'=>by have:=hn r hr (j+1) u' hu (by omega) hr';rwa [show b+(j+1)=b+1+j by omega] at this)]
   exact XK v _ _ hr
  ·rw[lK v _ hr]
   exact CO us (b+1) _ _ (lK v _ hr) (fun j u' hu hr=>rfl)
 | v::us,b,i+1,f,hi,hd,hd',he,hn=>by
  simp only[gV]
  have:(if d' b=true then jJ f v else f)=(if d b=true then jJ f v else f):=by rw[he b (by omega)]
  rw[this]
  exact IU us (b+1) i _ hi (by rwa [show b+1+i=b+(i+1) by omega]) (by rwa [show b+1+i=b+(i+1) by omega]) (fun j hj=>he j (by omega)) (fun r hr j v' hv hlt hr'=>by
   have:=hn r hr (j+1) v' hv (by omega) hr'
   rwa [show b+(j+1)=b+1+j by omega] at this)
 | [],b,i,f,hi,hd,hd',he,hn=>by simp at hi
theorem MZ {α:Type} {d:Nat->Bool}:∀ (us:List (List (Nat × α))) (b:Nat) (f:Nat->α),(∀ j,j<us.length->d (b+j)=true)->gV d b us f=us.foldl jJ f
 | [],b,f,h=>rfl
 | u::us,b,f,h=>by
  have h0:=h 0 (by simp)
  rw[Nat.add_zero] at h0
  simp only[gV,h0,Dn,List.foldl_cons]
  exact MZ us (b+1) _ (fun j hj=>by have:=h (j+1) (by simpa using hj);rwa [show b+(j+1)=b+1+j by omega] at this)
structure Sim where
 k:K
 l:List (Nat × Res)
 touch:List Nat
def zV (B:Book) (ops:Array Oper):List Oper->Gam->Rho->Option (List Prop × List Sim × Gam × Rho)
 | [],G,R=>some ([],[],G,R)
 | o::rest,G,R=>match yJ B (bT G) (aU R) ops o with
  | some (vc,k,l)=>match zV B ops rest (b4u o.dst k G) (aft R l) with
   | some (vc',ss,G',R')=>some (vc++vc',⟨k,l,(a3O o.op).flatMap (fun s=>qU (aU R) (bT G s))++o.dst.toList++l.map (·.1)⟩::ss,G',R')
   | none=>none
  | none=>none
def isDst (o:Oper) (l:List Nat):Bool:=match o.dst with
 | some s=>l.contains s
 | none=>false
def a1t (o o':Oper):Bool:=match o.dst,o'.dst with
 | some s,some s'=>s==s'
 | _,_=>false
def clash (ops:Array Oper) (o o':Oper) (s s':Sim):Bool:=isDst o (readsOf ops o') || isDst o' (readsOf ops o) || s.l.any (fun q=>s'.touch.contains q.1) || s'.l.any (fun q=>s.touch.contains q.1)
def a4M (ops:Array Oper) (b:Array Nat) (ss:List Sim):Bool:=(List.range ops.size).all fun j=>match ops[j]?,ss[j]? with
 | some o',some s'=>(List.range j).all fun i=>match ops[i]?,ss[i]? with
  | some o,some s=>!a1t o o'&&(!clash ops o o' s s' || (b.getD j 0).testBit i)
  | _,_=>false
 | _,_=>false
def b0Y (ops:Array Oper) (b:Array Nat):Bool:=(List.range ops.size).all fun j=>match ops[j]? with
 | some o=>(List.range j).all fun i=>!(b.getD j 0).testBit i || o.after.any fun e=>Region.binds .any e&&(e.on==i || (decide (e.on<j)&&decide (i<e.on)&&(b.getD e.on 0).testBit i))
 | none=>false
def QJ (ops:Array Oper) (L:Array Bool):Prop:=∀ j o,ops[j]?=some o->L.getD j false=true->∀ e ∈ o.after,Region.binds .any e=true->L.getD e.on false=true
theorem UW {ops:Array Oper} {b:Array Nat} (h:b0Y ops b=true) {L:Array Bool} (hc:QJ ops L):∀ (j:Nat) (o:Oper) (i:Nat),ops[j]?=some o->i<j->(b.getD j 0).testBit i=true->(∀ e ∈ o.after,Region.binds .any e=true->L.getD e.on false=true)->L.getD i false=true:=by
 intro j
 induction j using Nat.strongRecOn with
 | _ j ih =>
  intro o i ho hij hb hd
  have hj:j<ops.size:=(Af.1 ho).1
  have h1:=(xk.1 h) j (vk.2 hj)
  rw[ho] at h1
  have h2:=(xk.1 h1) i (vk.2 hij)
  rw[hb] at h2
  simp only[Bool.not_true,Bool.false_or,Array.any_eq_true'] at h2
  obtain⟨e,he,h3⟩:=h2
  simp only[ak,uf,ji,ay] at h3
  obtain⟨h4,h5⟩:=h3
  have hdone:=hd e he h4
  rcases h5 with h5|⟨⟨h5,hie⟩,h6⟩
  ·rw[<-h5];exact hdone
  ·have ho':ops[e.on]?=some ops[e.on]:=Aj (by omega)
   exact ih e.on h5 _ i ho' hie h6 (hc e.on _ ho' hdone)
theorem PD {α:Type} {d:Nat->Bool}:∀ (us:List (List (Nat × α))) (b:Nat) (f:Nat->α),gV d (b+1) us f=gV (fun j=>d (j+1)) b us f
 | [],b,f=>rfl
 | u::us,b,f=>by simp only[gV];exact PD us (b+1) _
def FV (l:List Oper) (ss:List Sim):List (List (Nat × K)):=List.zipWith (fun o s=>a1A o.dst s.k) l ss
def DF (ss:List Sim):List (List (Nat × Res)):=ss.map (·.l)
theorem ZL {B:Book} {ops:Array Oper}:∀ {l:List Oper} {G:Gam} {R:Rho} {vc:List Prop} {ss:List Sim} {G':Gam} {R':Rho},zV B ops l G R=some (vc,ss,G',R') ->
  ss.length=l.length/\bT G'=(FV l ss).foldl jJ (bT G)/\aU R'=(DF ss).foldl jJ (aU R) /\
  ∀ i o,l[i]?=some o->∃ s vi,ss[i]?=some s/\(bY vc->bY vi)/\yJ B (gV (fun j=>decide (j<i)) 0 (FV l ss) (bT G)) (gV (fun j=>decide (j<i)) 0 (DF ss) (aU R)) ops o=some (vi,s.k,s.l) /\
   s.touch=(a3O o.op).flatMap (fun q=>qU (gV (fun j=>decide (j<i)) 0 (DF ss) (aU R)) (gV (fun j=>decide (j<i)) 0 (FV l ss) (bT G) q))++o.dst.toList++s.l.map (·.1)
 | [],G,R,vc,ss,G',R',h=>by
  simp only[zV,ah,dh] at h
  obtain⟨_,rfl,rfl,rfl⟩:=h
  exact⟨rfl,rfl,rfl,fun i o hi=>by simp at hi⟩
 | o::rest,G,R,vc,ss,G',R',h=>by
  simp only[zV] at h
  split at h<;>try(cases h;done)
  rename_i vc1 k l1 h1
  split at h<;>try(cases h;done)
  rename_i vc2 ss2 G2 R2 h2
  simp only[ah,dh] at h
  obtain⟨rfl,rfl,rfl,rfl⟩:=h
  obtain⟨k1,k2,k3,k4⟩:=ZL h2
  rw[xR] at k2 k4
  rw[TR,sG] at k3 k4
  refine⟨by simp[k1],k2,k3,fun i o' hi=>?_⟩
  cases i with
  | zero =>
   simp only[List.getElem?_cons_zero,ah] at hi
   subst hi
   have e1:∀ {α:Type} (us:List (List (Nat × α))) (f:Nat->α),gV (fun j=>decide (j<0)) 0 us f=f:=fun us f=>by
    funext r
    exact EO us 0 f (fun j u _ _=>by simp)
   exact⟨_,vc1,rfl,fun hv=>(cO.1 hv).1,by rw[e1,e1];exact h1,by rw[e1,e1]⟩
  | succ i =>
   obtain⟨s,vi,j1,j2,j3,j4⟩:=k4 i o' (by simpa using hi)
   have e1:∀ {α:Type} (u:List (Nat × α)) (us:List (List (Nat × α))) (f:Nat->α),gV (fun j=>decide (j<i+1)) 0 (u::us) f=gV (fun j=>decide (j<i)) 0 us (jJ f u):=fun u us f=>by
    simp only[gV]
    rw[ig (by simp),PD]
    congr 1
    funext j
    simp
   refine⟨s,vi,by simpa using j1,fun hv=>j2 (cO.1 hv).2,?_,?_⟩
   ·show yJ B (gV _ 0 (a1A o.dst k::FV rest ss2) (bT G)) (gV _ 0 (l1::DF ss2) (aU R)) ops o'=_
    rw[e1,e1];exact j3
   ·show s.touch=(a3O o'.op).flatMap (fun q=>qU (gV _ 0 (l1::DF ss2) (aU R)) (gV _ 0 (a1A o.dst k::FV rest ss2) (bT G) q))++_++_
    rw[e1,e1];exact j4
theorem a6t {l:List Oper} {ss:List Sim} {j:Nat} {u:List (Nat × K)} (h:(FV l ss)[j]?=some u):∃ o s,l[j]?=some o/\ss[j]?=some s/\u=a1A o.dst s.k:=by
 unfold FV at h
 rw[List.getElem?_zipWith] at h
 cases h1:l[j]? with
 | none=>rw[h1] at h;cases h
 | some o =>
  cases h2:ss[j]? with
  | none=>rw[h1,h2] at h;cases h
  | some s=>rw[h1,h2] at h;simp at h;exact⟨o,s,rfl,rfl,h.symm⟩
theorem a6z {ss:List Sim} {j:Nat} {u:List (Nat × Res)} (h:(DF ss)[j]?=some u):∃ s,ss[j]?=some s/\u=s.l:=by
 unfold DF at h
 rw[Ae] at h
 cases h2:ss[j]? with
 | none=>rw[h2] at h;cases h
 | some s=>rw[h2] at h;simp at h;exact⟨s,rfl,h.symm⟩
theorem WE {d:Option Nat} {k:K} {r:Nat} (h:r ∈ (a1A d k).map (·.1)):d=some r:=by
 cases d with
 | none=>cases h
 | some s=>simp[a1A] at h;rw[h]
theorem a2L {o:Oper} {l:List Nat} {s:Nat} (h:o.dst=some s) (hs:s ∈ l):isDst o l=true:=by simp[isDst,h,hs]
theorem a0k {l:List (Nat × Res)} {t:List Nat} {r:Nat} (h:r ∈ l.map (·.1)) (ht:r ∈ t):l.any (fun q=>t.contains q.1)=true:=by
 obtain⟨q,hq,rfl⟩:=ug.1 h
 exact vw.2 ⟨q,hq,by simpa using ht⟩
theorem DN {ops:Array Oper} {b:Array Nat} {ss:List Sim} (h:a4M ops b ss=true) {i j:Nat} {o o':Oper} {s s':Sim} (hij:i<j) (hi:ops[i]?=some o) (hj:ops[j]?=some o') (hs:ss[i]?=some s) (hs':ss[j]?=some s'):a1t o o'=false/\(clash ops o o' s s'=true->(b.getD j 0).testBit i=true):=by
 have hjl:j<ops.size:=(Af.1 hj).1
 have h1:=(xk.1 h) j (vk.2 hjl)
 rw[hj,hs'] at h1
 have h2:=(xk.1 h1) i (vk.2 hij)
 rw[hi,hs] at h2
 simp only[ak,mg,uf] at h2
 refine⟨h2.1,fun hc=>?_⟩
 rcases h2.2 with h3|h3
 ·rw[hc] at h3;cases h3
 ·exact h3
theorem a5Q {ops:Array Oper} {o o':Oper} {s s':Sim} (h:s.l.any (fun q=>s'.touch.contains q.1)=true):clash ops o o' s s'=true:=by unfold clash;rw[h];simp
theorem b3c {ops:Array Oper} {o o':Oper} {s s':Sim} (h:s'.l.any (fun q=>s.touch.contains q.1)=true):clash ops o o' s s'=true:=by unfold clash;rw[h];simp
section
variable {B:Book} {W:World}
theorem a7x (hB:B.Ok) (hm:B.P.follows .mixedOrders=true) {id:Nat} {ops:Array Oper} {b:Array Nat} {Q:Exit->Act->World->Prop} {G:Gam} {R:Rho} {E:Env} {w:World} {a:Act} {vc:List Prop} {ss:List Sim} {G':Gam} {R':Rho}
  (h:zV B ops ops.toList G R=some (vc,ss,G',R')) (hd:uP .any ops=true) (ho:a4M ops b ss=true) (hn:b0Y ops b=true) (hv:bY vc) (hM:Mem E (aU R) W w) (hf:Fits E (aU R) w B a (bT G))
  (hq:∀ E' a' w',E'.fix=E.fix->Mem E' (aU R') W w'->Fits E' (aU R') w' B a' (bT G')->Q .normal a' w'):(Code.region id ops true).wp B.P Q a w:=by
 obtain⟨hlen,hG',hR',hat⟩:=ZL h
 have hlen':ss.length=ops.size:=by simpa using hlen
 refine wp_region_any hm ?_
 refine a8Q (fun L a w=>L.size=ops.size/\QJ ops L/\∃ E',E'.fix=E.fix/\Mem E' (gV (fun j=>L.getD j false) 0 (DF ss) (aU R)) W w/\Fits E' (gV (fun j=>L.getD j false) 0 (DF ss) (aU R)) w B a (gV (fun j=>L.getD j false) 0 (FV ops.toList ss) (bT G))) hd ?_ ?_ _ _ _ _ (by rw[WC];exact aj _) ?_
 ·rintro L a w ⟨hL,_,E9,m0,m1,m2⟩ hall
  have hdone:∀ j,j<ops.size->L.getD j false=true:=fun j hj=>zD hL hj (hall j hj)
  have e1:gV (fun j=>L.getD j false) 0 (DF ss) (aU R)=aU R':=by
   rw[hR']
   exact MZ _ 0 _ (fun j hj=>by rw[um];exact hdone j (by simpa [DF,hlen'] using hj))
  have e2:gV (fun j=>L.getD j false) 0 (FV ops.toList ss) (bT G)=bT G':=by
   rw[hG']
   exact MZ _ 0 _ (fun j hj=>by rw[um];exact hdone j (by simp[FV,hlen'] at hj;exact hj))
  rw[e1] at m1 m2
  rw[e2] at m2
  exact hq E9 a w m0 m1 m2
 ·rintro L a w i o ⟨hL,hC,E9,m0,m1,m2⟩ hio hl qL
  obtain⟨s,vi,hs,hvi,hone,b0q⟩:=hat i o (by simpa using hio)
  have hi:i<ops.size:=(Af.1 hio).1
  have hif:L.getD i false=false:=GR hl
  have a6k:∀ j oj sj,j<i->ops[j]?=some oj->ss[j]?=some sj->clash ops oj o sj s=true->L.getD j false=true:=fun j oj sj hji hoj hsj hcl =>
   UW hn hC i o j hio hji ((DN ho hji hoj hio hsj hs).2 hcl) qL
  have a0M:∀ j oj sj,i<j->ops[j]?=some oj->ss[j]?=some sj->clash ops o oj s sj=true->L.getD j false=false:=fun j oj sj hij hoj hsj hcl=>by
   cases hjd:L.getD j false with
   | false=>rfl
   | true =>
    have:=UW hn hC j oj i hoj hij ((DN ho hij hio hoj hs hsj).2 hcl) (hC j oj hoj hjd)
    rw[this] at hif;cases hif
  have b6y:∀ q ∈ readsOf ops o,gV (fun j=>decide (j<i)) 0 (FV ops.toList ss) (bT G) q=gV (fun j=>L.getD j false) 0 (FV ops.toList ss) (bT G) q:=fun q hq=>CO _ 0 _ _ rfl (fun j u hu hr=>by
   obtain⟨oj,sj,h1,h2,rfl⟩:=a6t hu
   have hdj:=WE hr
   have h1':ops[j]?=some oj:=by simpa using h1
   rw[um]
   by_cases hji:j<i
   ·simp only[hji,decide_true]
    exact(a6k j oj sj hji h1' h2 (by simp[clash,a2L hdj hq])).symm
   ·simp only[hji,decide_false]
    by_cases e:j=i
    ·rw[e];exact hif.symm
    ·exact(a0M j oj sj (by omega) h1' h2 (by simp[clash,a2L hdj hq])).symm)
  have b0p:∀ r ∈ s.touch,gV (fun j=>decide (j<i)) 0 (DF ss) (aU R) r=gV (fun j=>L.getD j false) 0 (DF ss) (aU R) r:=fun r hr=>CO _ 0 _ _ rfl (fun j u hu hr'=>by
   obtain⟨sj,h2,rfl⟩:=a6z hu
   have hjl:j<ops.size:=by rw[<-hlen'];exact(pq.1 h2).1
   have h1':ops[j]?=some ops[j]:=Aj hjl
   rw[um]
   by_cases hji:j<i
   ·simp only[hji,decide_true]
    exact(a6k j _ sj hji h1' h2 (a5Q (a0k hr' hr))).symm
   ·simp only[hji,decide_false]
    by_cases e:j=i
    ·rw[e];exact hif.symm
    ·exact(a0M j _ sj (by omega) h1' h2 (b3c (a0k hr' hr))).symm)
  have b5x:yJ B (gV (fun j=>L.getD j false) 0 (FV ops.toList ss) (bT G)) (gV (fun j=>L.getD j false) 0 (DF ss) (aU R)) ops o=some (vi,s.k,s.l):=by
   rw[<-hone]
   refine(a3e b6y (fun q hq r hr=>b0p r ?_) (fun r hr=>b0p r ?_)).symm
   ·rw[b0q];exact zl _ (zl _ (Ar.2 ⟨q,hq,hr⟩))
   ·rw[b0q];exact zl _ (Bf _ (by rw[hr];simp))
  have b0l:gV (fun j=>(L.setIfInBounds i true).getD j false) 0 (DF ss) (aU R)=jJ (gV (fun j=>L.getD j false) 0 (DF ss) (aU R)) s.l:=by
   refine IU _ 0 i _ (by unfold DF;rw[Ae,hs];rfl) (by rw[um];exact hif) (by rw[um];exact xB hl) (fun j hj=>qK (by omega)) (fun r hr j v hv hij hr'=>?_)
   obtain⟨sj,h2,rfl⟩:=a6z hv
   have hjl:j<ops.size:=by rw[<-hlen'];exact(pq.1 h2).1
   have hjt:r ∈ sj.touch:=by
    obtain⟨sj',_,h3,_,_,h4⟩:=hat j ops[j] (by simp[hjl])
    rw[h2] at h3
    cases h3
    rw[h4];exact Bf _ hr'
   rw[um]
   exact a0M j _ sj hij (Aj hjl) h2 (a5Q (a0k hr hjt))
  have b6v:gV (fun j=>(L.setIfInBounds i true).getD j false) 0 (FV ops.toList ss) (bT G)=jJ (gV (fun j=>L.getD j false) 0 (FV ops.toList ss) (bT G)) (a1A o.dst s.k):=by
   refine IU _ 0 i _ (by unfold FV;rw[List.getElem?_zipWith,hs];simp[hio]) (by rw[um];exact hif) (by rw[um];exact xB hl) (fun j hj=>qK (by omega)) (fun r hr j v hv hij hr'=>?_)
   obtain⟨oj,sj,h1,h2,rfl⟩:=a6t hv
   have h1':ops[j]?=some oj:=by simpa using h1
   have hd1:=WE hr
   have hd2:=WE hr'
   have:=(DN ho hij hio h1' hs h2).1
   simp[a1t,hd1,hd2] at this
  have hCl:QJ ops (L.setIfInBounds i true):=by
   intro j oj hoj hj e he hb'
   have hset:∀ q,L.getD q false=true->(L.setIfInBounds i true).getD q false=true:=fun q hq=>by
    by_cases e1:i=q
    ·subst e1;rw[hif] at hq;cases hq
    ·rw[qK e1];exact hq
   by_cases e1:j=i
   ·subst e1
    rw[hio] at hoj
    cases hoj
    exact hset _ (qL e he hb')
   ·rw[qK (fun e2=>e1 e2.symm)] at hj
    exact hset _ (hC j oj hoj hj e he hb')
  unfold wpOp
  rw[hio]
  refine a3f hB b5x (hvi hv) m1 m2 (fun v w' E' n1 n2 n3 n4=>⟨by simpa using hL,hCl,E',n2.fix.trans m0,?_,?_⟩)
  ·rw[b0l,<-sG];exact n1
  ·rw[b0l,b6v,<-sG];exact m2.put n2 (YW b5x) n3 n4
 ·have hnew:∀ j,(Array.replicate ops.size false).getD j false=false:=fun j=>KE _ j
  have e1:∀ {α:Type} (us:List (List (Nat × α))) (f:Nat->α),gV (fun j=>(Array.replicate ops.size false).getD j false) 0 us f=f:=fun us f=>by
   funext r
   exact EO us 0 f (fun j u _ _=>hnew _)
  rw[e1,e1]
  obtain⟨n1,n2⟩:=hM.grows (dw w.heap.size w).drew
  have hcl0:QJ ops (Array.replicate ops.size false):=fun j o hj hj2=>by rw[hnew] at hj2;cases hj2
  exact⟨by simp,hcl0,E,rfl,n1,hf.size,hf.defers,fun s=>n2.wf _ (hf.wf s),fun s=>n2.holds _ _ (hf.wf s) (hf.holds s),hf.par⟩
end
end
end Go.Proofs.YtgplhbhfdgempaaGreat
