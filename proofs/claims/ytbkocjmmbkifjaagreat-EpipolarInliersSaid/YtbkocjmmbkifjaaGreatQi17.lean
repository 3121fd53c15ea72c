/-
  Lemmas for the theorem vinliers_holds, part 17 of 32.
-/
import Derived.Tactics
import Derived.Test.YtbkocjmmbkifjaaGreatQi16
namespace Go.Proofs.YtbkocjmmbkifjaaGreat
open Go Go.RowKit
theorem Dw:type_of% @List.filter_cons:=@List.filter_cons
theorem yh:type_of% @List.mem_append_left:=@List.mem_append_left
theorem Ap:type_of% @List.mem_append_right:=@List.mem_append_right
theorem Au:type_of% @List.mem_flatMap:=@List.mem_flatMap
theorem lg:type_of% @Bool.or_eq_true:=@Bool.or_eq_true
section
set_option linter.unusedSimpArgs false
set_option linter.unusedVariables false
abbrev Gam:=List (Nat × K)
abbrev Rho:=List (Nat × Res)
def aV:Gam->Nat->K
 | [],_=>.any
 | (s,k)::G,q=>if q=s then k else aV G q
def aO:Rho->Nat->Res
 | [],_=>.none
 | (s,x)::R,q=>if q=s then x else aO R q
def b4I (r:Nat) (R:Rho):Rho:=R.filter fun p=>p.1 != r
theorem OI {r q:Nat} (h:q≠r):∀ (R:Rho),aO (b4I r R) q=aO R q
 | []=>rfl
 | (s,x)::R=>by
  unfold b4I
  rw[Dw]
  split
  ·simp only[aO]
   split
   ·rfl
   ·exact OI h R
  ·rename_i hs
   have hs:s=r:=by simpa using hs
   simp only[aO]
   rw[jk (by rw[hs];exact h)]
   exact OI h R
def aft (R:Rho):List (Nat × Res)->Rho
 | []=>R
 | q::l=>aft (q::b4I q.1 R) l
theorem nN:∀ (l:List (Nat × Res)) (R:Rho),aO (aft R l)=after (aO R) l
 | [],_=>rfl
 | (r,x)::l,R=>by
  rw[aft,nN l,after]
  congr 1
  funext q
  simp only[aO]
  unfold bC
  split
  ·rfl
  ·rename_i h;exact OI h R
def opK (G:Nat->K):Operand->K
 | .tmp s=>G s
 | .const v=>wG v
 | .func f=>.val (.clo f .unit) ()
 | .global _=>.any
def unW:K->K
 | .when _ k=>k
 | k=>k
def a7j:K->List Cd
 | .when b _=>[b=true]
 | _=>[]
def tmpsOf (op:Op):List Nat:=op.operands.toList.filterMap fun x=>match x with
 | .tmp s=>some s
 | _=>none
def jF (ts:List Nat) (G:Nat->K) (s:Nat):K:=if ts.contains s then G s else .any
def keepW (op:Op) (s:Nat):Bool:=match op with
 | .pick (.tmp c) _ _=>c != s
 | _=>false
def unG (op:Op) (G:Nat->K) (s:Nat):K:=if keepW op s then G s else unW (G s)
def KD (op:Op) (s:Nat) (k:K):List Cd:=if keepW op s then [] else a7j k
structure Book where
 P:Program
 C:FuncId->List At->List Ctr
 T:Told
 N:Nat
 keep:Nat->Bool
def Book.Ok (B:Book):Prop:=(∀ g ts,∀ c ∈ B.C g ts,aT B.P g c)/\∀ g ts,∀ c ∈ B.T.nc g ts,NOk B.P g c
def eqb (c b:Bool):Bool:=c==b
def a7m (B:Book):Option Nat->Bool
 | some d=>decide (d<B.N)&&!B.keep d
 | none=>true
def a7D (g:Bool):List Cd->List Cd
 | []=>[]
 | p::ps=>[g=true->dR (p::ps)]
theorem a5E {g:Bool} {l:List Cd} (h:dR (a7D g l)) (hg:g=true):dR l:=by
 cases l with
 | nil=>trivial
 | cons p ps=>exact h.1 hg
def gdK (b:Bool):K->Option Bool
 | .val .bool c=>some (eqb c b)
 | .when r (.val .bool c)=>some (r&&eqb c b)
 | _=>none
def a0C (B:Book) (ρ:Nat->Res) (k:Operand->K) (d:Option Nat) (op:Op):MK:=match gOp B.P B.T k op with
 | some (vc,kk)=>some (vc,kk,[])
 | none=>nU B.P B.C B.T ρ k d op
def vM (B:Book) (G:Nat->K) (ρ:Nat->Res) (ops:Array Oper) (o:Oper):MK:=if a7m B o.dst then (match o.guard with
 | none=>nU B.P B.C B.T ρ (opK (jF (tmpsOf o.op) G)) o.dst o.op
 | some (j,b)=>match (ops[j]?).bind (·.dst) with
  | some s=>match gdK b (G s) with
   | some g=>match a0C B ρ (opK (jF (tmpsOf o.op) (unG o.op G))) o.dst o.op with
    | some (vc,k,[])=>some (a7D g ((tmpsOf o.op).flatMap (fun s=>KD o.op s (G s))++vc),.when g k,[])
    | _=>none
   | none=>none
  | none=>none) else none
def ZM (d:Option Nat) (k:K):List (Nat × K):=match d with
 | some d=>[(d,k)]
 | none=>[]
def iD {α:Type} (f:Nat->α):List (Nat × α)->Nat->α
 | []=>f
 | (r,x)::l=>iD (bC f r x) l
theorem pJ:∀ (l:List (Nat × Res)) (ρ:Nat->Res),after ρ l=iD ρ l
 | [],_=>rfl
 | (_,_)::l,_=>pJ l _
def b1X (d:Option Nat) (k:K) (G:Gam):Gam:=match d with
 | some d=>(d,k)::G
 | none=>G
theorem vH (G:Gam) (d:Option Nat) (k:K):aV (b1X d k G)=iD (aV G) (ZM d k):=by
 cases d with
 | none=>rfl
 | some d =>
  funext q
  show aV ((d,k)::G) q=bC (aV G) d k q
  simp only[aV]
  unfold bC
  split
  ·rfl
  ·rfl
structure Fits (E:Env) (ρ:Nat->Res) (w:World) (B:Book) (a:Act) (G:Nat->K):Prop where
 size:a.tmps.size=B.N
 defers:a.defers=[]
 wf:∀ s,(G s).wf ρ
 holds:∀ s,(G s).holds E ρ w (a.eval (.tmp s))
 par:∀ s,B.keep s=true->a.eval (.tmp s)=E.par s
section
variable {B:Book} {E:Env} {ρ:Nat->Res} {W w:World} {G:Nat->K} {a:Act}
theorem a9k {c:Bool} {ka kb k:K} {vc:List Cd} (h:kH c ka kb=some (vc,k)):k.wf ρ:=by
 cases ka<;>try (simp[kH] at h;done)
 case val t x =>
  cases kb<;>try (simp[kH] at h;done)
  case val t' y =>
   simp only[kH,ig,bf] at h
   obtain⟨y',h1,rfl,rfl⟩:=h
   trivial
  case when b kb =>
   cases kb<;>try (simp[kH] at h;done)
   case val t' y =>
    simp only[kH,ig,bf] at h
    obtain⟨y',h1,rfl,rfl⟩:=h
    trivial
 case when b ka =>
  cases ka<;>try (simp[kH] at h;done)
  case val t x =>
   cases kb<;>try (simp[kH] at h;done)
   case val t' y =>
    simp only[kH,ig,bf] at h
    obtain⟨y',h1,rfl,rfl⟩:=h
    trivial
   case when b' kb =>
    cases kb<;>try (simp[kH] at h;done)
    case val t' y =>
     simp only[kH,ig,bf] at h
     obtain⟨y',h1,rfl,rfl⟩:=h
     trivial
def K.isVal:K->Bool
 | .val _ _=>true
 | _=>false
theorem EY {k:K} (h:k.isVal=true):k.wf ρ:=by cases k<;>simp_all [K.isVal];trivial
theorem a8d {op:BinOp} {k:IntKind} {a b:Int} {vc:List Cd} {kk:K} (h:a8c op k a b=some (vc,kk)):kk.isVal=true:=by
 cases op<;>simp only[a8c,ah,bf] at h<;>first|(cases h;done)|(obtain⟨_,rfl⟩:=h;rfl)
theorem b0Y {op:BinOp} {a b:Bool} {vc:List Cd} {kk:K} (h:eqB op a b=some (vc,kk)):kk.isVal=true:=by
 cases op<;>simp only[eqB,ah,bf] at h<;>first|(cases h;done)|(obtain⟨_,rfl⟩:=h;rfl)
theorem OA {r:Bool} {P:Program} {s:TypeId} {i:Nat} {ty:Ty} {y:ty.den} {vc:List Cd} {kk:K} (h:yL r P s i ty y=some (vc,kk)):kk.isVal=true:=by
 unfold yL at h
 split at h<;>try(cases h;done)
 split at h<;>try(cases h;done)
 simp only[ah,bf] at h
 obtain⟨_,rfl⟩:=h
 cases r<;>rfl
theorem UZ {P:Program} {k:Operand->K} {op:Op} {vc:List Cd} {kk:K} (h:eP P k op=some (vc,kk)) (hw:∀ x,(k x).wf ρ):kk.wf ρ:=by
 cases op<;>try (simp[eP] at h;done)
 case move x=>simp only[eP,ah,bf] at h;rw[<-h.2];exact hw x
 case assign x=>simp only[eP,ah,bf] at h;rw[<-h.2];exact hw x
 case pick c a b =>
  simp only[eP] at h
  split at h<;>first|(cases h;done)|exact a9k h
 case call c =>
  obtain⟨cl,xs,ts⟩:=c
  cases cl<;>try (simp[eP] at h;done)
  rename_i bi
  cases bi<;>try (simp[eP] at h;done)
  simp only[eP] at h
  (repeat' split at h)<;>first|(cases h;done)|(simp only[JD,b4v,ah,bf] at h;rw[<-h.2];trivial)
 case unOp op t x =>
  cases op<;>simp only[eP] at h<;>try(cases h;done)
  all_goals (split at h<;>first|(cases h;done)|(simp only[b4H,b4E,WB,ah,bf] at h;rw[<-h.2];trivial))
 case binOp op t x y yt =>
  simp only[eP] at h
  split at h<;>try(cases h;done)
  ·split at h<;>first|(cases h;done)|exact EY (a8d h)
  ·split at h<;>first|(cases h;done)|exact EY (b0Y h)
  ·split at h<;>first|(cases h;done)|(rename_i hb;cases op<;>simp only[b1M,ah,bf] at h<;>first|(cases h;done)|(rw[<-h.2];trivial))
  ·split at h<;>try(cases h;done)
   split at h<;>try(cases h;done)
   cases op<;>simp only[eqS,ah,bf] at h<;>first|(cases h;done)|(rw[<-h.2];trivial)
 case extract x i =>
  simp only[eP] at h
  split at h<;>try(cases h;done)
  ·split at h<;>first|(cases h;done)|(simp only[ah,bf] at h;rw[<-h.2];trivial)
  ·rename_i ks hkx
   have hwx:=hw x
   rw[hkx] at hwx
   split at h<;>first|(cases h;done)|(simp only[ah,bf] at h;rw[<-h.2])
   rename_i e
   exact YG.1 (hwx _ (Bo e))
 case field s x i =>
  simp only[eP] at h
  split at h<;>first|(cases h;done)|exact EY (OA h)
 case fieldAddr s x i =>
  simp only[eP] at h
  split at h<;>first|(cases h;done)|exact EY (OA h)
 all_goals
  simp only[eP] at h
  (repeat' split at h)<;>first|(cases h;done)|(simp only[EI,a3F,b1p,WB,ah,bf] at h;rw[<-h.2];trivial)
theorem a5t (v:Value):(wG v).wf ρ:=by unfold wG;split<;>trivial
theorem FH (hf:Fits E ρ w B a G):(∀ x,(opK G x).wf ρ)/\∀ x,(opK G x).holds E ρ w (a.eval x):=by
 constructor
 ·intro x
  cases x with
  | tmp s=>exact hf.wf s
  | const v=>exact a5t v
  | func f=>trivial
  | global g=>trivial
 ·intro x
  cases x with
  | tmp s=>exact hf.holds s
  | const v=>exact a5s v
  | func f=>exact⟨[.func (.func f) #[] #[]],rfl,[],rfl,rfl⟩
  | global g=>trivial
theorem Fits.put {E':Env} {ρ':Nat->Res} {w':World} {o:Oper} {k:K} {v:Value} (hf:Fits E ρ w B a G) (hx:Ext E ρ w E' ρ' w') (hd:a7m B o.dst=true) (hw:k.wf ρ') (hk:k.holds E' ρ' w' v):Fits E' ρ' w' B (a.put o.dst v) (iD G (ZM o.dst k)):=by
 cases hod:o.dst with
 | none=>exact⟨hf.size,hf.defers,fun s=>hx.wf _ (hf.wf s),fun s=>hx.holds _ _ (hf.wf s) (hf.holds s),fun s hs=>by rw[hx.par];exact hf.par s hs⟩
 | some d =>
  rw[hod] at hd
  have hd:d<B.N/\B.keep d=false:=by simpa [a7m] using hd
  obtain⟨hd,hkd⟩:=hd
  refine⟨by simpa [Act.put] using hf.size,hf.defers,fun s=>?_,fun s=>?_,fun s hs=>?_⟩
  ·show K.wf ρ' (bC G d k s)
   unfold bC
   split
   ·exact hw
   ·exact hx.wf _ (hf.wf s)
  ·show K.holds E' ρ' w' (bC G d k s) _
   unfold bC
   split
   ·rename_i e
    subst e
    have:(a.put (some s) v).eval (.tmp s)=v:=by
     have hs9:=hf.size
     have hs8:s<a.tmps.size:=by rw[hs9];exact hd
     simp[Act.put,Act.eval,mg,hs8]
    rw[this];exact hk
   ·rename_i e
    have:(a.put (some d) v).eval (.tmp s)=a.eval (.tmp s):=by
     simp[Act.put,Act.eval,mg,Array.getElem?_setIfInBounds,show ¬ d=s from fun e'=>e e'.symm]
    rw[this];exact hx.holds _ _ (hf.wf s) (hf.holds s)
  ·have e:¬ d=s:=fun e=>by subst e;rw[hkd] at hs;cases hs
   have:(a.put (some d) v).eval (.tmp s)=a.eval (.tmp s):=by
    simp[Act.put,Act.eval,mg,Array.getElem?_setIfInBounds,e]
   rw[this,hx.par];exact hf.par s hs
theorem b7Z {k:K} (h:k.wf ρ) (hc:dR (a7j k)):(unW k).wf ρ:=by cases k<;>first|exact h|exact h hc.1
theorem a6A {k:K} {v:Value} (h:k.holds E ρ w v) (hc:dR (a7j k)):(unW k).holds E ρ w v:=by cases k<;>first|exact h|exact h.1 hc.1
theorem qW {α:Type _} {f:α->List Cd}:∀ {l:List α} {s:α},dR (l.flatMap f)->s ∈ l->dR (f s)
 | x::l,s,h,hs=>by
  rw[List.flatMap_cons] at h
  obtain⟨h1,h2⟩:=dD.1 h
  rcases qj.1 hs with rfl|hs
  ·exact h1
  ·exact qW h2 hs
theorem a5Z {ts:List Nat} (hf:Fits E ρ w B a G):Fits E ρ w B a (jF ts G):=by
 refine⟨hf.size,hf.defers,fun s=>?_,fun s=>?_,hf.par⟩
 ·unfold jF;split
  ·exact hf.wf s
  ·trivial
 ·unfold jF;split
  ·exact hf.holds s
  ·trivial
theorem a2q {ts:List Nat} {op:Op} (hf:Fits E ρ w B a G) (hc:dR (ts.flatMap fun s=>KD op s (G s))):Fits E ρ w B a (jF ts (unG op G)):=by
 refine⟨hf.size,hf.defers,fun s=>?_,fun s=>?_,hf.par⟩
 ·unfold jF;split
  ·rename_i hs
   have hc:=qW hc (show s ∈ ts by simpa using hs)
   unfold unG;unfold KD at hc
   split
   ·exact hf.wf s
   ·rename_i hk;rw[jk hk] at hc;exact b7Z (hf.wf s) hc
  ·trivial
 ·unfold jF;split
  ·rename_i hs
   have hc:=qW hc (show s ∈ ts by simpa using hs)
   unfold unG;unfold KD at hc
   split
   ·exact hf.holds s
   ·rename_i hk;rw[jk hk] at hc;exact a6A (hf.holds s) hc
  ·trivial
theorem a1f (hB:B.Ok) {ops:Array Oper} {o:Oper} {vc:List Cd} {kk:K} {l:List (Nat × Res)} (h:vM B G ρ ops o=some (vc,kk,l)) (hv:dR vc) (hM:Mem E ρ W w) (hf:Fits E ρ w B a G)
  {next:Act->World->Prop} {Q:Exit->Act->World->Prop} (hn:∀ v w' E',Mem E' (after ρ l) W w'->Ext E ρ w E' (after ρ l) w'->kk.wf (after ρ l)->kk.holds E' (after ρ l) w' v->next (a.put o.dst v) w') :
  if Region.wanted o (yielded ops a.tmps) then o.wp B.P a w next Q\/(o.asks B.P a w/\LetsOut Q) else next (a.put o.dst undef) w:=by
 unfold vM at h
 split at h<;>try(cases h;done)
 rename_i hd
 cases hg:o.guard with
 | none =>
  simp only[hg] at h
  obtain⟨h1,h2⟩:=FH (a5Z (ts:=tmpsOf o.op) hf)
  have hw:Region.wanted o (yielded ops a.tmps)=true:=by simp[Region.wanted,hg]
  rw[jq hw]
  exact .inl (VO hB.1 hB.2 h hv hM h1 h2 (fun vc' kk' hp=>UZ hp h1) next Q hn)
 | some jb =>
  obtain⟨j,b⟩:=jb
  simp only[hg] at h
  split at h<;>try(cases h;done)
  rename_i s hs
  split at h<;>try(cases h;done)
  rename_i g hks
  split at h<;>try(cases h;done)
  rename_i vc1 k1 hst
  simp only[ah,bf] at h
  obtain⟨rfl,rfl,rfl⟩:=h
  have hwn:Region.wanted o (yielded ops a.tmps)=g:=by
   have hsv:=hf.holds s
   have hv1:∀ c:Bool,a.tmps.getD s undef=.bool c->Region.wanted o (yielded ops a.tmps)=eqb c b:=fun c h1=>by
    have ht:a.tmps[s]?=some (.bool c):=by
     rw[mg] at h1
     cases h2:a.tmps[s]? with
     | none=>rw[h2] at h1;cases h1
     | some v=>rw[h2] at h1;exact zl some h1
    simp[Region.wanted,hg,yielded,hs,ht]
    rfl
   have hv2:a.tmps.getD s undef=undef->Region.wanted o (yielded ops a.tmps)=false:=fun h1=>by
    rw[mg] at h1
    cases h2:a.tmps[s]? with
    | none=>simp[Region.wanted,hg,yielded,hs,h2]
    | some v =>
     rw[h2] at h1
     have h1:v=undef:=h1
     subst h1
     simp[Region.wanted,hg,yielded,hs,h2]
     try first|rfl|(intro e;cases e;done)|(simp[undef];done)|(unfold undef;simp;done)
   unfold gdK at hks
   split at hks<;>first|(cases hks;done)|skip
   ·rename_i c hk
    rw[hk] at hsv
    have hsv:=nV hsv
    simp only[ah] at hks
    rw[<-hks];exact hv1 c hsv
   ·rename_i r c hk
    rw[hk] at hsv
    simp only[ah] at hks
    rw[<-hks]
    cases r with
    | true=>have hsv:=nV (hsv.1 rfl);exact hv1 c hsv
    | false=>exact hv2 (hsv.2 rfl)
  rw[hwn]
  by_cases hcb:g=true
  ·rw[jq hcb]
   obtain⟨hv1,hv2⟩:=dD.1 (a5E hv hcb)
   obtain⟨h1,h2⟩:=FH (a2q hf hv1)
   unfold a0C at hst
   split at hst
   ·rename_i vc2 k2 hgo
    simp only[ah,bf] at hst
    obtain⟨rfl,rfl,_⟩:=hst
    exact .inl ((b3Q hgo hv2 hM h2).steps next Q (fun v w' E' m1 m2 m3 m4=>hn v w' E' m1 m2 (fun _=>m3) ⟨fun _=>m4,fun e=>by rw[hcb] at e;cases e⟩))
   ·exact .inl (VO hB.1 hB.2 hst hv2 hM h1 h2 (fun vc' kk' hp=>UZ hp h1) next Q (fun v w' E' m1 m2 m3 m4=>hn v w' E' m1 m2 (fun _=>m3) ⟨fun _=>m4,fun e=>by rw[hcb] at e;cases e⟩))
  ·rw[jk hcb]
   exact hn undef w E hM (Ext.refl _ _ _) (fun e=>absurd e hcb) ⟨fun e=>absurd e hcb,fun _=>rfl⟩
def wW (B:Book) (ops:Array Oper):List Oper->Gam->Rho->Option (List Cd × Gam × Rho)
 | [],G,R=>some ([],G,R)
 | o::rest,G,R=>match vM B (aV G) (aO R) ops o with
  | some (vc,k,l)=>match wW B ops rest (b1X o.dst k G) (aft R l) with
   | some (vc',G',R')=>some (vc++vc',G',R')
   | none=>none
  | none=>none
theorem UU {ops:Array Oper} {o:Oper} {x:List Cd × K × List (Nat × Res)} (h:vM B G ρ ops o=some x):a7m B o.dst=true:=by
 unfold vM at h
 split at h
 ·assumption
 ·cases h
theorem VI (hB:B.Ok) {ops:Array Oper} {Q:Exit->Act->World->Prop}:∀ {l:List Oper} {G:Gam} {R:Rho} {E:Env} {w:World} {a:Act} {vc:List Cd} {G':Gam} {R':Rho},wW B ops l G R=some (vc,G',R')->dR vc->Mem E (aO R) W w->Fits E (aO R) w B a (aV G) ->
  (∀ E' a' w',E'.fix=E.fix->Mem E' (aO R') W w'->Fits E' (aO R') w' B a' (aV G')->Q .normal a' w')->wpList B.P ops Q l a w
 | [],G,R,E,w,a,vc,G',R',h,hv,hM,hf,hq=>by
  simp only[wW,ah,bf] at h
  obtain⟨_,rfl,rfl⟩:=h
  exact hq E a w rfl hM hf
 | o::rest,G,R,E,w,a,vc,G',R',h,hv,hM,hf,hq=>by
  simp only[wW] at h
  split at h<;>try(cases h;done)
  rename_i vc1 k l1 h1
  split at h<;>try(cases h;done)
  rename_i vc2 G2 R2 h2
  simp only[ah,bf] at h
  obtain⟨rfl,rfl,rfl⟩:=h
  obtain⟨hv1,hv2⟩:=dD.1 hv
  exact a1f hB h1 hv1 hM hf (fun v w' E' m1 m2 m3 m4=>by
   rw[<-nN] at m1 m2 m3 m4
   exact VI hB h2 hv2 m1 (by rw[vH];exact hf.put m2 (UU h1) m3 m4) (fun E2 a2 w2 hb2=>hq E2 a2 w2 (hb2.trans m2.fix)))
end
end
section
set_option linter.unusedSimpArgs false
set_option linter.unusedVariables false
set_option maxRecDepth 20000
theorem a6D {P:Program} {md:Region.Mode} {ops:Array Oper} {Q:Exit->Act->World->Prop} (I:Array Bool->Act->World->Prop) (hd:qX md ops=true)
  (hend:∀ L a w,I L a w->(∀ i,i<ops.size->L.getD i true=true)->Q .normal a w)
  (hstep:∀ L a w i o,I L a w->ops[i]?=some o->L.getD i true=false->(∀ e ∈ o.after,Region.binds md e=true->L.getD e.on false=true)->wpOp P ops Q i (I (L.setIfInBounds i true)) a w) :
  ∀ fuel L a w,DN L<=fuel->I L a w->wpAny P md ops Q fuel L a w:=by
 intro fuel
 induction fuel with
 | zero =>
  intro L a w hu hI
  have hn:Region.ready md ops L=[]:=by
   cases hr:Region.ready md ops L with
   | nil=>rfl
   | cons i r =>
    exfalso
    obtain⟨o,_,h2,_⟩:=AQ (by rw[hr];exact jl)
    have:=xB h2
    omega
  exact⟨hn,hend L a w hI (nC hd hn)⟩
 | succ fuel ih =>
  intro L a w hu hI
  refine⟨fun hn=>hend L a w hI (nC hd hn),fun i hi=>?_⟩
  obtain⟨o,h1,h2,h3⟩:=AQ hi
  refine wpOp_mono (fun a' w' h'=>ih _ _ _ ?_ h') (hstep L a w i o hI h1 h2 h3)
  have:=xB h2
  omega
def OY:K0->List Nat
 | .val _ _=>[]
 | .own r _=>[r]
 | .ptr r _=>[r]
 | .kU r=>[r]
def K.res:K->List Nat
 | .ptr r _=>[r]
 | .own r _=>[r]
 | .when _ k=>k.res
 | .cell r _ _=>[r]
 | .mrow r _ _=>[r]
 | .mpos r _ _ _=>[r]
 | .kU r=>[r]
 | .mix ks=>ks.flatMap OY
 | .fn _ ks=>ks.flatMap OY
 | .sng r _=>[r]
 | _=>[]
def b7V:Res->List Nat
 | .jY k=>k.res
 | _=>[]
def oC (ρ:Nat->Res) (k:K):List Nat:=k.res++k.res.flatMap fun r=>b7V (ρ r)
section
variable {P:Program} {C:FuncId->List At->List Ctr} {T:Told} {ρ ρ':Nat->Res}
theorem sV {α:Type} {f g:Nat->α} {r:Nat} (h:f r=g r):∀ (l:List (Nat × α)),iD f l r=iD g l r
 | []=>h
 | (q,x)::l=>by
  simp only[iD]
  refine sV ?_ l
  unfold bC;split
  ·rfl
  ·exact h
theorem jO {α:Type} {r:Nat}:∀ (l:List (Nat × α)) (f:Nat->α),r ∉ l.map (·.1)->iD f l r=f r
 | [],_,_=>rfl
 | (q,x)::l,f,h=>by
  simp only[xq,qj,not_or] at h
  simp only[iD]
  rw[jO l _ h.2,aN _ _ h.1]
theorem JX {k:K} (h:∀ r ∈ k.res,ρ r=ρ' r):qJ ρ k=qJ ρ' k:=by
 cases k<;>try rfl
 ·rename_i r v
  simp only[qJ,h r (by simp[K.res])]
 ·rename_i r v i
  simp only[qJ,h r (by simp[K.res])]
theorem oI {k:K} {t:Option Ty} (h:∀ r ∈ k.res,ρ r=ρ' r):uK ρ t k=uK ρ' t k:=by
 cases k<;>first|rfl|exact JX h
theorem a2V {k:K} {t:Option Ty} (h:∀ r ∈ k.res,ρ r=ρ' r):a2U ρ t k=a2U ρ' t k:=by
 have:TG ρ k=TG ρ' k:=by
  cases k<;>try rfl
  ·rename_i t x;cases t<;>rfl
  ·rename_i r v
   simp only[TG,h r (by simp[K.res])]
  ·rename_i r v i
   simp only[TG,h r (by simp[K.res])]
 unfold a2U
 rw[this,oI h]
theorem JW {t:Option Ty}:∀ {ks:List K} {ρ ρ':Nat->Res},(∀ k ∈ ks,∀ r ∈ k.res,ρ r=ρ' r)->BL ρ t ks=BL ρ' t ks
 | [],_,_,_=>rfl
 | k::ks,ρ,ρ',h=>by
  simp only[BL,oI (h k (jl ..))]
  split
  ·rename_i p l _
   rw[JW (ρ:=after ρ l) (ρ':=after ρ' l) (fun k' hk' r hr=>by rw[pJ,pJ];exact sV (h k' (iy _ hk') r hr) l)]
  ·rfl
theorem yD:∀ {ts:List Ty} {ks:List K} {ρ ρ':Nat->Res},(∀ k ∈ ks,∀ r ∈ k.res,ρ r=ρ' r)->yC ρ ts ks=yC ρ' ts ks
 | [],[],_,_,_=>rfl
 | [],_::_,_,_,_=>rfl
 | _::_,[],_,_,_=>rfl
 | t::ts,k::ks,ρ,ρ',h=>by
  simp only[yC,oI (h k (jl ..))]
  split
  ·rename_i p l _
   rw[yD (ρ:=after ρ l) (ρ':=after ρ' l) (fun k' hk' r hr=>by rw[pJ,pJ];exact sV (h k' (iy _ hk') r hr) l)]
  ·rfl
theorem a0f {k:Operand->K} {d:Option Nat} {op:Op} (hk:∀ x,∀ r ∈ (k x).res,ρ r=ρ' r) (hd:∀ r,d=some r->ρ r=ρ' r):pR P T ρ k d op=pR P T ρ' k d op:=by
 cases op<;>try rfl
 case alloc t =>
  simp only[pR]
  split
  ·rw[hd _ (by first|assumption|rfl)]
  ·rfl
 case box t x =>
  simp only[pR,oI (hk x)]
  split
  ·rw[hd _ (by first|assumption|rfl)]
  ·rfl
 case load t x =>
  simp only[pR]
  split
  ·rename_i r o hx;rw[hk x r (by rw[hx];simp[K.res])]
  ·rfl
 case store t x y =>
  simp only[pR,oI (hk y)]
  split
  ·rename_i r o _ _ hx _;rw[hk x r (by rw[hx];simp[K.res])]
  ·rfl
 case fieldAddr s x i =>
  simp only[pR]
  split
  ·rename_i r o hx;rw[hk x r (by rw[hx];simp[K.res])]
  ·rfl
 case indexAddr s x i =>
  simp only[pR]
  split
  ·rename_i r o _ _ hx _;rw[hk x r (by rw[hx];simp[K.res])]
  ·rfl
theorem a1n {k:Operand->K} {d:Option Nat} {op:Op} (hk:∀ x,∀ r ∈ (k x).res,ρ r=ρ' r) (hd:∀ r,d=some r->ρ r=ρ' r):zF P T ρ k d op=zF P T ρ' k d op:=by
 cases op<;>try rfl
 case buildSlice t len parts =>
  simp only[zF]
  have h1:BL ρ (a0o P T t) (parts.toList.map fun q=>k q.2)=BL ρ' (a0o P T t) (parts.toList.map fun q=>k q.2):=JW (fun k' hk' r hr=>by
   obtain⟨q,_,rfl⟩:=uq.1 hk'
   exact hk q.2 r hr)
  rw[h1]
  split
  ·split
   ·split
    ·split
     ·rw[hd _ (by first|assumption|rfl)]
     ·rfl
    ·rfl
   ·rfl
   ·rfl
  ·rfl
 case call c =>
  obtain⟨cl,xs,ts⟩:=c
  cases cl<;>try rfl
  rename_i bi
  cases bi<;>try rfl
  simp only[zF]
  split
  ·rename_i s x t t' _ _
   split
   ·simp only[a2V (hk x)]
    split
    ·rename_i r v hs;rw[hk s r (by rw[hs];simp[K.res])]
    ·split
     ·rw[hd _ (by first|assumption|rfl)]
     ·rfl
    ·rfl
   ·rfl
  ·rfl
theorem zC {k:K} {r:Nat} (h:r ∈ k.res):r ∈ oC ρ k:=yh _ h
theorem a9t {k k':K} {r q:Nat} (h:r ∈ k.res) (hr:ρ r=.jY k') (hq:q ∈ k'.res):q ∈ oC ρ k:=Ap _ (Au.2 ⟨r,h,by rw[hr];exact hq⟩)
theorem zO {k:K} {t:Option Ty} (h:∀ r ∈ k.res,ρ r=ρ' r):sQ ρ t k=sQ ρ' t k:=by
 cases k<;>try rfl
 ·rename_i r v
  simp only[sQ,h r (by simp[K.res])]
 ·rename_i r v i
  simp only[sQ,h r (by simp[K.res])]
theorem KY {k:K} {t:Option Ty} (h:∀ r ∈ oC ρ k,ρ r=ρ' r):CG ρ t k=CG ρ' t k:=by
 have h0:∀ r ∈ k.res,ρ r=ρ' r:=fun r hr=>h r (zC hr)
 cases k
 case ptr r o=>simp only[CG,h0 r (by simp[K.res])]
 case kU r =>
  simp only[CG,<-h0 r (by simp[K.res])]
  split
  ·rename_i k9 hr
   split
   ·rw[zO (ρ:=ρ) (ρ':=ρ') (fun q hq=>h q (a9t (k:=.kU r) (by simp[K.res]) hr hq))]
   ·rfl
  ·rfl
 all_goals exact zO (t:=t) h0
theorem b4q (k:K0):(k0K k).res=OY k:=by cases k<;>rfl
theorem zN:∀ {u:Ty} {ks:List K0},(∀ k ∈ ks,∀ r ∈ oC ρ (k0K k),ρ r=ρ' r)->gK ρ u ks=gK ρ' u ks
 | .unit,[],_=>rfl
 | .pair a b,k::ks,h=>by
  simp only[gK]
  rw[KY (h k (jl ..)),zN (fun k' hk'=>h k' (iy _ hk'))]
 | .unit,_::_,_=>rfl
 | .pair _ _,[],_=>rfl
 | .bool,_,_=>rfl
 | .int _,_,_=>rfl
 | .lf _,_,_=>rfl
 | .list _,_,_=>rfl
 | .arr _ _,_,_=>rfl
 | .ref _,_,_=>rfl
 | .clo _ _,_,_=>rfl
 | .nls _,_,_=>rfl
theorem a4u {g:FuncId} {ks:List K0} {k:K0} {r:Nat} (hk:k ∈ ks) (h:r ∈ oC ρ (k0K k)):r ∈ oC ρ (.fn g ks):=by
 have h1:∀ q ∈ (k0K k).res,q ∈ (K.fn g ks).res:=fun q hq=>Au.2 ⟨k,hk,by rw[<-b4q];exact hq⟩
 rcases tu.1 h with h|h
 ·exact zC (h1 r h)
 ·obtain⟨q,hq,h⟩:=Au.1 h
  exact Ap _ (Au.2 ⟨q,h1 q hq,h⟩)
theorem a1F {k:K} {t:Ty} (h:∀ r ∈ oC ρ k,ρ r=ρ' r):RS ρ t k=RS ρ' t k:=by
 cases k
 case fn g ks =>
  simp only[RS]
  split
  ·rw[zN (fun k hk r hr=>h r (a4u hk hr))]
  ·rfl
 all_goals exact KY (t:=some t) h
theorem sO:∀ {ts:List Ty} {ks:List K},(∀ k ∈ ks,∀ r ∈ oC ρ k,ρ r=ρ' r)->lM ρ ts ks=lM ρ' ts ks
 | [],[],_=>rfl
 | [],_::_,_=>rfl
 | _::_,[],_=>rfl
 | t::ts,k::ks,h=>by
  simp only[lM]
  rw[a1F (h k (jl ..)),sO (fun k' hk'=>h k' (iy _ hk'))]
theorem yE {ks:List K} (h:∀ k ∈ ks,∀ r ∈ oC ρ k,ρ r=ρ' r):∀ cs:List Ctr,BM ρ ks cs=BM ρ' ks cs
 | []=>rfl
 | c::cs=>by
  have e:a0b ρ c ks=a0b ρ' c ks:=by
   unfold a0b
   rw[sO h,yD (fun k hk r hr=>h k hk r (zC hr))]
  simp only[BM]
  rw[e,yE h cs]
theorem XF {k:Operand->K} {op:Op} (hk:∀ x,∀ r ∈ oC ρ (k x),ρ r=ρ' r):uM P C ρ k op=uM P C ρ' k op:=by
 cases op<;>try rfl
 case makeFunc fn first caps=>cases fn<;>rfl
 case call c =>
  obtain⟨cl,xs,ts⟩:=c
  cases cl<;>try rfl
  rename_i f
  simp only[uM]
  have hcap:∀ (t:Ty) (x:t.den) (k':K),k' ∈ RY t x->k'.res=[]:=by
   intro t
   induction t with
   | pair a b _ ih =>
    intro x k' h
    rcases qj.1 h with rfl|h
    ·rfl
    ·exact ih x.2 k' h
   | _=>intro x k' h;cases h
  split
  ·rename_i g t cx hf
   rw[yE (fun k' hk' r hr=>by
    rcases tu.1 hk' with h|h
    ·obtain⟨q,_,rfl⟩:=uq.1 h;exact hk q r hr
    ·exfalso
     unfold oC at hr
     rw[hcap t cx k' h] at hr
     simp at hr)]
  ·rename_i g l hf
   rw[yE (fun k' hk' r hr=>by
    rcases tu.1 hk' with h|h
    ·obtain⟨q,_,rfl⟩:=uq.1 h;exact hk q r hr
    ·obtain⟨q,hq,rfl⟩:=uq.1 h
     exact hk f r (by rw[hf];exact a4u hq hr))]
  ·rfl
theorem a2F {k:Operand->K} {op:Op} (hk:∀ x,∀ r ∈ (k x).res,ρ r=ρ' r):JI P ρ k op=JI P ρ' k op:=by
 cases op<;>try rfl
 case indexAddr s x i =>
  simp only[JI]
  split
  ·rename_i r v _ _ hx _;rw[hk x r (by rw[hx];simp[K.res])]
  ·rename_i r v _ _ _ hx _;rw[hk x r (by rw[hx];simp[K.res])]
  ·rfl
 case load t x =>
  simp only[JI]
  split
  ·rename_i r v _ hx;rw[hk x r (by rw[hx];simp[K.res])]
  ·rename_i r v _ _ hx;rw[hk x r (by rw[hx];simp[K.res])]
  ·rename_i r hx;rw[hk x r (by rw[hx];simp[K.res])]
  ·rfl
 case call c =>
  obtain⟨cl,xs,ts⟩:=c
  cases cl<;>try rfl
  rename_i bi
  cases bi<;>try rfl
  simp only[JI]
  split
  ·rename_i x t _ _
   split
   ·split
    ·rename_i r v hx;rw[hk x r (by rw[hx];simp[K.res])]
    ·rename_i r v _ hx;rw[hk x r (by rw[hx];simp[K.res])]
    ·rfl
   ·rfl
  ·rfl
theorem a3i {k:Operand->K} {d:Option Nat} {op:Op} (hk:∀ x,∀ r ∈ (k x).res,ρ r=ρ' r) (hd:∀ r,d=some r->ρ r=ρ' r):ZT P T ρ k d op=ZT P T ρ' k d op:=by
 cases op<;>try rfl
 case store t x y =>
  have hown:ownB ρ (k y)=ownB ρ' (k y):=by
   cases hy:k y<;>try rfl
   rename_i r v
   simp only[ownB]
   rw[hk y r (by rw[hy];simp[K.res])]
  simp only[ZT,oI (hk y),hown]
  split
  ·rename_i r v i hx
   rw[hk x r (by rw[hx];simp[K.res])]
   split
   ·rfl
   ·split
    ·rfl
    ·rename_i r2 v2 hy
     rw[hk y r2 (by rw[hy];simp[K.res])]
    ·rfl
   ·rfl
  ·rename_i r v id i hx;rw[hk x r (by rw[hx];simp[K.res])]
  ·rename_i r hx;rw[hk x r (by rw[hx];simp[K.res])]
  ·rfl
 case makeSlice t n m =>
  simp only[ZT]
  split
  ·rw[hd _ (by first|assumption|rfl)]
  ·rfl
theorem a2p {k:Operand->K} {d:Option Nat} {op:Op} (hk:∀ x,∀ r ∈ (k x).res,ρ r=ρ' r) (hd:∀ r,d=some r->ρ r=ρ' r):PW P T ρ k d op=PW P T ρ' k d op:=by
 cases op<;>try rfl
 case buildSlice t len parts =>
  simp only[PW]
  split<;>try rfl
  rename_i r
  split<;>try rfl
  split<;>try rfl
  split<;>try rfl
  split
  ·rw[hd _ (by first|assumption|rfl)]
  ·rename_i y _
   split
   ·rename_i r2 v2 hy;rw[hk y r2 (by rw[hy];simp[K.res])]
   ·rfl
  ·rfl
 case call c =>
  obtain⟨cl,xs,ts⟩:=c
  cases cl<;>try rfl
  rename_i bi
  cases bi<;>try rfl
  simp only[PW]
  split
  ·rename_i s x t t' _ _
   split
   ·split
    ·rename_i r2 v2 hx
     rw[hk x r2 (by rw[hx];simp[K.res])]
     split
     ·split
      ·rename_i r v hs;rw[hk s r (by rw[hs];simp[K.res])]
      ·rw[hd _ (by first|assumption|rfl)]
      ·rfl
     ·rfl
    ·rfl
   ·rfl
  ·rfl
theorem KX {r:Nat} {row:Option Nat}:∀ {ts:List Ty} {ks:List K},(∀ k ∈ ks,∀ q ∈ k.res,ρ q=ρ' q)->GR ρ r row ts ks=GR ρ' r row ts ks
 | [],[],_=>rfl
 | [],_::_,_=>rfl
 | _::_,[],_=>rfl
 | t::ts,k::ks,h=>by
  simp only[GR]
  rw[zO (h k (jl ..)),KX (fun k' hk'=>h k' (iy _ hk'))]
theorem a0W {k:LK} {k0:K} (h:∀ q ∈ k0.res,ρ q=ρ' q):a3W ρ k k0=a3W ρ' k k0:=by
 cases k with
 | row e t =>
  cases k0<;>try rfl
  case own r v=>exact zl (ML e t r v) (h r (by simp[K.res]))
  case mrow r v i=>exact zl (MJ e t r v i) (h r (by simp[K.res]))
 | mat e e2 t =>
  cases k0<;>try rfl
  case own r v=>exact zl (MI e e2 t r v) (h r (by simp[K.res]))
theorem DY {d:Option Nat} {ks:List K} (h:∀ k ∈ ks,∀ r ∈ oC ρ k,ρ r=ρ' r) (hd:∀ r,d=some r->ρ r=ρ' r):∀ cs:List mX,yF ρ d ks cs=yF ρ' d ks cs
 | []=>rfl
 | c::cs=>by
  have e:CP ρ d ks c=CP ρ' d ks c:=by
   cases c with
   | mk k args pre made =>
    simp only[CP]
    split
    ·rw[hd _ (by first|assumption|rfl),sO h]
    ·rfl
   | chg k args res pre out fn =>
    cases ks with
    | nil=>rfl
    | cons k0 ks =>
     have h0:∀ k ∈ k0::ks,∀ r ∈ k.res,ρ r=ρ' r:=fun k hk r hr=>h k hk r (zC hr)
     simp only[CP]
     rw[a0W (h0 k0 (jl ..)),yD (fun k hk=>h0 k (iy _ hk))]
     simp only[KX (ρ:=ρ) (ρ':=ρ') (ks:=ks) (fun k hk=>h0 k (iy _ hk))]
  simp only[yF]
  rw[e,DY h hd cs]
theorem XE {k:Operand->K} {d:Option Nat} {op:Op} (hk:∀ x,∀ r ∈ oC ρ (k x),ρ r=ρ' r) (hd:∀ r,d=some r->ρ r=ρ' r):yG P T ρ k d op=yG P T ρ' k d op:=by
 cases op<;>try rfl
 case call c =>
  obtain⟨cl,xs,ts⟩:=c
  cases cl<;>try rfl
  rename_i f
  simp only[yG]
  have hcap:∀ (t:Ty) (x:t.den) (k':K),k' ∈ RY t x->k'.res=[]:=by
   intro t
   induction t with
   | pair a b _ ih =>
    intro x k' h
    rcases qj.1 h with rfl|h
    ·rfl
    ·exact ih x.2 k' h
   | _=>intro x k' h;cases h
  split
  ·split
   ·refine DY (fun k9 hk9 r hr=>?_) hd _
    rcases tu.1 hk9 with hk9|hk9
    ·obtain⟨q,_,rfl⟩:=uq.1 hk9;exact hk q r hr
    ·exfalso
     unfold oC at hr
     rw[hcap _ _ _ hk9] at hr
     simp at hr
   ·rfl
  ·rfl
theorem a0B {k:Operand->K} {op:Op} (hk:∀ x,∀ r ∈ (k x).res,ρ r=ρ' r):TS P ρ k op=TS P ρ' k op:=by
 unfold TS
 split
 ·rename_i t s lo hi mx
  have h:=JX (hk (.tmp s))
  split
  ·rename_i r v e
   rw[e] at h
   rw[h]
  ·rfl
 ·rfl
theorem XI {k:Operand->K} {op:Op} (hk:∀ x,∀ r ∈ (k x).res,ρ r=ρ' r):uN P ρ k op=uN P ρ' k op:=by
 unfold uN
 split
 ·split
  ·split
   ·rename_i x y _ _ _ _ _ _ r v id ty1 ys hx hy
    rw[hk x r (by rw[hx];simp[K.res])]
   ·rfl
  ·rfl
 ·split
  ·split
   ·rename_i x y _ _ _ _ _ _ r v ty1 ys hx hy
    rw[hk x r (by rw[hx];simp[K.res])]
   ·rfl
  ·rfl
 ·rfl
theorem FY {k:Operand->K} {d:Option Nat} {op:Op} (hk:∀ x,∀ r ∈ oC ρ (k x),ρ r=ρ' r) (hd:∀ r,d=some r->ρ r=ρ' r):nU P C T ρ k d op=nU P C T ρ' k d op:=by
 have h0:∀ x,∀ r ∈ (k x).res,ρ r=ρ' r:=fun x r hr=>hk x r (zC hr)
 unfold nU
 rw[a0f h0 hd,a1n h0 hd,a2F h0,a3i h0 hd,a2p h0 hd,a0B h0,XE hk hd,XI h0,XF hk]
end
def TY (ops:Array Oper) (o:Oper):Option Nat:=match o.guard with
 | some (j,_)=>(ops[j]?).bind (·.dst)
 | none=>none
def readsOf (ops:Array Oper) (o:Oper):List Nat:=tmpsOf o.op++(TY ops o).toList
theorem b0o (ρ:Nat->Res) (k:K):oC ρ (unW k)=oC ρ k:=by cases k<;>rfl
theorem QK (ρ:Nat->Res) (v:Value):oC ρ (wG v)=[]:=by unfold wG;split<;>rfl
def moveB:Op->Bool
 | .move _=>true
 | _=>false
theorem KQ {P:Program} {C:FuncId->List At->List Ctr} {T:Told} {ρ ρ':Nat->Res} {k:Operand->K} {d:Option Nat} {op:Op} (h:moveB op=true):nU P C T ρ k d op=nU P C T ρ' k d op:=by
 cases op<;>simp[moveB] at h
 rfl
def a1C (op:Op):List Nat:=if moveB op then [] else tmpsOf op
theorem a1e {B:Book} {G G':Nat->K} {ρ ρ':Nat->Res} {ops:Array Oper} {o:Oper} (hG:∀ s ∈ readsOf ops o,G s=G' s) (hρ:∀ s ∈ a1C o.op,∀ r ∈ oC ρ (G s),ρ r=ρ' r) (hd:∀ r,o.dst=some r->ρ r=ρ' r):vM B G ρ ops o=vM B G' ρ' ops o:=by
 have h1:jF (tmpsOf o.op) G=jF (tmpsOf o.op) G':=by
  funext s
  unfold jF
  split
  ·rename_i h;exact hG s (yh _ (by simpa using h))
  ·rfl
 have h2:jF (tmpsOf o.op) (unG o.op G)=jF (tmpsOf o.op) (unG o.op G'):=by
  funext s
  unfold jF
  split
  ·rename_i h;unfold unG;rw[hG s (yh _ (by simpa using h))]
  ·rfl
 have h3:(tmpsOf o.op).flatMap (fun s=>KD o.op s (G s))=(tmpsOf o.op).flatMap (fun s=>KD o.op s (G' s)):=by
  have:∀ l:List Nat,(∀ s ∈ l,G s=G' s)->l.flatMap (fun s=>KD o.op s (G s))=l.flatMap (fun s=>KD o.op s (G' s)):=by
   intro l
   induction l with
   | nil=>intro _;rfl
   | cons x l ih=>intro h;rw[List.flatMap_cons,List.flatMap_cons,h x (jl ..),ih (fun s hs=>h s (iy _ hs))]
  exact this _ (fun s hs=>hG s (yh _ hs))
 have k3:nU B.P B.C B.T ρ (opK (jF (tmpsOf o.op) G')) o.dst o.op=nU B.P B.C B.T ρ' (opK (jF (tmpsOf o.op) G')) o.dst o.op/\nU B.P B.C B.T ρ (opK (jF (tmpsOf o.op) (unG o.op G'))) o.dst o.op=nU B.P B.C B.T ρ' (opK (jF (tmpsOf o.op) (unG o.op G'))) o.dst o.op:=by
  by_cases hp:moveB o.op=true
  ·exact⟨KQ hp,KQ hp⟩
  unfold a1C at hρ
  rw[jk hp] at hρ
  have k1:∀ x,∀ r ∈ oC ρ (opK (jF (tmpsOf o.op) G') x),ρ r=ρ' r:=by
   rw[<-h1]
   intro x r hr
   cases x with
   | tmp s =>
    have hr:r ∈ oC ρ (jF (tmpsOf o.op) G s):=hr
    unfold jF at hr
    split at hr
    ·rename_i h;exact hρ s (by simpa using h) r hr
    ·cases hr
   | const v=>exfalso;have hr:r ∈ oC ρ (wG v):=hr;rw[QK] at hr;cases hr
   | func f=>cases hr
   | global g=>cases hr
  have k2:∀ x,∀ r ∈ oC ρ (opK (jF (tmpsOf o.op) (unG o.op G')) x),ρ r=ρ' r:=by
   rw[<-h2]
   intro x r hr
   cases x with
   | tmp s =>
    have hr:r ∈ oC ρ (jF (tmpsOf o.op) (unG o.op G) s):=hr
    unfold jF at hr
    split at hr
    ·rename_i h
     refine hρ s (by simpa using h) r ?_
     unfold unG at hr
     split at hr
     ·exact hr
     ·rw[<-b0o];exact hr
    ·cases hr
   | const v=>exfalso;have hr:r ∈ oC ρ (wG v):=hr;rw[QK] at hr;cases hr
   | func f=>cases hr
   | global g=>cases hr
  exact⟨FY k1 hd,FY k2 hd⟩
 have k4:a0C B ρ (opK (jF (tmpsOf o.op) (unG o.op G'))) o.dst o.op=a0C B ρ' (opK (jF (tmpsOf o.op) (unG o.op G'))) o.dst o.op:=by
  unfold a0C
  rw[k3.2]
 unfold vM
 rw[h1,h2,h3,k3.1,k4]
 cases hg:o.guard with
 | none=>rfl
 | some jb =>
  obtain⟨j,b⟩:=jb
  simp only
  cases hs:(ops[j]?).bind (·.dst) with
  | none=>rfl
  | some s =>
   have:G s=G' s:=hG s (Ap _ (by simp[TY,hg,hs]))
   simp only[this]
end
section
set_option linter.unusedSimpArgs false
set_option linter.unusedVariables false
set_option maxRecDepth 20000
def eX {α:Type} (done:Nat->Bool):Nat->List (List (Nat × α))->(Nat->α)->Nat->α
 | _,[],f=>f
 | j,u::us,f=>eX done (j+1) us (if done j then iD f u else f)
theorem yM {α:Type} {d d':Nat->Bool} {r:Nat}:∀ (us:List (List (Nat × α))) (b:Nat) (f g:Nat->α),f r=g r->(∀ j u,us[j]?=some u->r ∈ u.map (·.1)->d (b+j)=d' (b+j))->eX d b us f r=eX d' b us g r
 | [],b,f,g,h,_=>h
 | u::us,b,f,g,h,hd=>by
  simp only[eX]
  refine yM us (b+1) _ _ ?_ (fun j u' hu hr=>by have:=hd (j+1) u' hu hr;rwa [show b+(j+1)=b+1+j by omega] at this)
  by_cases hr:r ∈ u.map (·.1)
  ·have:=hd 0 u rfl hr
   rw[Nat.add_zero] at this
   rw[<-this]
   split
   ·exact sV h u
   ·exact h
  ·split<;>split<;>first
    | (rw[jO u _ hr,jO u _ hr];exact h)
    | (rw[jO u _ hr];exact h)
    |exact h
theorem zX {α:Type} {d:Nat->Bool} {r:Nat}:∀ (us:List (List (Nat × α))) (b:Nat) (f:Nat->α),(∀ j u,us[j]?=some u->r ∈ u.map (·.1)->d (b+j)=false)->eX d b us f r=f r
 | [],b,f,_=>rfl
 | u::us,b,f,hd=>by
  simp only[eX]
  rw[zX us (b+1) _ (fun j u' hu hr=>by have:=hd (j+1) u' hu hr;rwa [show b+(j+1)=b+1+j by omega] at this)]
  by_cases hr:r ∈ u.map (·.1)
  ·have:=hd 0 u rfl hr
   rw[Nat.add_zero] at this
   rw[this];rfl
  ·split
   ·exact jO u _ hr
   ·rfl
theorem TJ {α:Type} {r:Nat}:∀ (l:List (Nat × α)) (f g:Nat->α),r ∈ l.map (·.1)->iD f l r=iD g l r
 | [],_,_,h=>by cases h
 | (q,x)::l,f,g,h=>by
  simp only[iD]
  by_cases hr:r ∈ l.map (·.1)
  ·exact TJ l _ _ hr
  ·rw[jO l _ hr,jO l _ hr]
   have:r=q:=by
    rcases qj.1 h with h|h
    ·exact h
    ·exact absurd h hr
   subst this
   rw[aC,aC]
theorem CU {α:Type} {d d':Nat->Bool} {u:List (Nat × α)}:∀ (us:List (List (Nat × α))) (b i:Nat) (f:Nat->α),us[i]?=some u->d (b+i)=false->d' (b+i)=true->(∀ j,j≠b+i->d' j=d j)->(∀ r ∈ u.map (·.1),∀ j v,us[j]?=some v->i<j->r ∈ v.map (·.1)->d (b+j)=false)->eX d' b us f=iD (eX d b us f) u
 | v::us,b,0,f,hi,hd,hd',he,hn=>by
  simp only[List.getElem?_cons_zero,ah] at hi
  subst hi
  simp only[Nat.add_zero] at hd hd' he
  simp only[eX,hd,hd',Ce,yu,if_false]
  funext r
  have h1:eX d' (b+1) us (iD f v) r=eX d (b+1) us (iD f v) r:=yM us (b+1) _ _ rfl (fun j u' hu hr=>he _ (by omega))
  rw[h1]
  by_cases hr:r ∈ v.map (·.1)
  ·rw[zX us (b+1) _ (fun j u' hu hr'=>by have:=hn r hr (j+1) u' hu (by omega) hr';rwa [show b+(j+1)=b+1+j by omega] at this)]
   exact TJ v _ _ hr
  ·rw[jO v _ hr]
   exact yM us (b+1) _ _ (jO v _ hr) (fun j u' hu hr=>rfl)
 | v::us,b,i+1,f,hi,hd,hd',he,hn=>by
  simp only[eX]
  have:(if d' b=true then iD f v else f)=(if d b=true then iD f v else f):=by rw[he b (by omega)]
  rw[this]
  exact CU us (b+1) i _ hi (by rwa [show b+1+i=b+(i+1) by omega]) (by rwa [show b+1+i=b+(i+1) by omega]) (fun j hj=>he j (by omega)) (fun r hr j v' hv hlt hr'=>by
   have:=hn r hr (j+1) v' hv (by omega) hr'
   rwa [show b+(j+1)=b+1+j by omega] at this)
 | [],b,i,f,hi,hd,hd',he,hn=>by simp at hi
theorem IL {α:Type} {d:Nat->Bool}:∀ (us:List (List (Nat × α))) (b:Nat) (f:Nat->α),(∀ j,j<us.length->d (b+j)=true)->eX d b us f=us.foldl iD f
 | [],b,f,h=>rfl
 | u::us,b,f,h=>by
  have h0:=h 0 (by simp)
  rw[Nat.add_zero] at h0
  simp only[eX,h0,Ce,List.foldl_cons]
  exact IL us (b+1) _ (fun j hj=>by have:=h (j+1) (by simpa using hj);rwa [show b+(j+1)=b+1+j by omega] at this)
structure Sim where
 k:K
 l:List (Nat × Res)
 touch:List Nat
def wY (B:Book) (ops:Array Oper):List Oper->Gam->Rho->Option (List Cd × List Sim × Gam × Rho)
 | [],G,R=>some ([],[],G,R)
 | o::rest,G,R=>match vM B (aV G) (aO R) ops o with
  | some (vc,k,l)=>match wY B ops rest (b1X o.dst k G) (aft R l) with
   | some (vc',ss,G',R')=>some (vc++vc',⟨k,l,(a1C o.op).flatMap (fun s=>oC (aO R) (aV G s))++o.dst.toList++l.map (·.1)⟩::ss,G',R')
   | none=>none
  | none=>none
def isDst (o:Oper) (l:List Nat):Bool:=match o.dst with
 | some s=>l.contains s
 | none=>false
def ZF (o o':Oper):Bool:=match o.dst,o'.dst with
 | some s,some s'=>s==s'
 | _,_=>false
def clash (ops:Array Oper) (o o':Oper) (s s':Sim):Bool:=isDst o (readsOf ops o') || isDst o' (readsOf ops o) || s.l.any (fun q=>s'.touch.contains q.1) || s'.l.any (fun q=>s.touch.contains q.1)
def a2r (ops:Array Oper) (b:Array Nat) (ss:List Sim):Bool:=(List.range ops.size).all fun j=>match ops[j]?,ss[j]? with
 | some o',some s'=>(List.range j).all fun i=>match ops[i]?,ss[i]? with
  | some o,some s=>!ZF o o'&&(!clash ops o o' s s' || (b.getD j 0).testBit i)
  | _,_=>false
 | _,_=>false
def a8W (ops:Array Oper) (b:Array Nat):Bool:=(List.range ops.size).all fun j=>match ops[j]? with
 | some o=>(List.range j).all fun i=>!(b.getD j 0).testBit i || o.after.any fun e=>Region.binds .any e&&(e.on==i || (decide (e.on<j)&&decide (i<e.on)&&(b.getD e.on 0).testBit i))
 | none=>false
def LP (ops:Array Oper) (L:Array Bool):Prop:=∀ j o,ops[j]?=some o->L.getD j false=true->∀ e ∈ o.after,Region.binds .any e=true->L.getD e.on false=true
theorem PY {ops:Array Oper} {b:Array Nat} (h:a8W ops b=true) {L:Array Bool} (hc:LP ops L):∀ (j:Nat) (o:Oper) (i:Nat),ops[j]?=some o->i<j->(b.getD j 0).testBit i=true->(∀ e ∈ o.after,Region.binds .any e=true->L.getD e.on false=true)->L.getD i false=true:=by
 intro j
 induction j using Nat.strongRecOn with
 | _ j ih =>
  intro o i ho hij hb hd
  have hj:j<ops.size:=(zk.1 ho).1
  have h1:=(uz.1 h) j (List.mem_range.2 hj)
  rw[ho] at h1
  have h2:=(uz.1 h1) i (List.mem_range.2 hij)
  rw[hb] at h2
  simp only[Bool.not_true,Bool.false_or,Array.any_eq_true'] at h2
  obtain⟨e,he,h3⟩:=h2
  simp only[aj,lg,je,ay] at h3
  obtain⟨h4,h5⟩:=h3
  have hdone:=hd e he h4
  rcases h5 with h5|⟨⟨h5,hie⟩,h6⟩
  ·rw[<-h5];exact hdone
  ·have ho':ops[e.on]?=some ops[e.on]:=zx (by omega)
   exact ih e.on h5 _ i ho' hie h6 (hc e.on _ ho' hdone)
theorem KJ {α:Type} {d:Nat->Bool}:∀ (us:List (List (Nat × α))) (b:Nat) (f:Nat->α),eX d (b+1) us f=eX (fun j=>d (j+1)) b us f
 | [],b,f=>rfl
 | u::us,b,f=>by simp only[eX];exact KJ us (b+1) _
def BJ (l:List Oper) (ss:List Sim):List (List (Nat × K)):=List.zipWith (fun o s=>ZM o.dst s.k) l ss
def yY (ss:List Sim):List (List (Nat × Res)):=ss.map (·.l)
theorem VL {B:Book} {ops:Array Oper}:∀ {l:List Oper} {G:Gam} {R:Rho} {vc:List Cd} {ss:List Sim} {G':Gam} {R':Rho},wY B ops l G R=some (vc,ss,G',R') ->
  ss.length=l.length/\aV G'=(BJ l ss).foldl iD (aV G)/\aO R'=(yY ss).foldl iD (aO R) /\
  ∀ i o,l[i]?=some o->∃ s vi,ss[i]?=some s/\(dR vc->dR vi)/\vM B (eX (fun j=>decide (j<i)) 0 (BJ l ss) (aV G)) (eX (fun j=>decide (j<i)) 0 (yY ss) (aO R)) ops o=some (vi,s.k,s.l) /\
   s.touch=(a1C o.op).flatMap (fun q=>oC (eX (fun j=>decide (j<i)) 0 (yY ss) (aO R)) (eX (fun j=>decide (j<i)) 0 (BJ l ss) (aV G) q))++o.dst.toList++s.l.map (·.1)
 | [],G,R,vc,ss,G',R',h=>by
  simp only[wY,ah,bf] at h
  obtain⟨_,rfl,rfl,rfl⟩:=h
  exact⟨rfl,rfl,rfl,fun i o hi=>by simp at hi⟩
 | o::rest,G,R,vc,ss,G',R',h=>by
  simp only[wY] at h
  split at h<;>try(cases h;done)
  rename_i vc1 k l1 h1
  split at h<;>try(cases h;done)
  rename_i vc2 ss2 G2 R2 h2
  simp only[ah,bf] at h
  obtain⟨rfl,rfl,rfl,rfl⟩:=h
  obtain⟨k1,k2,k3,k4⟩:=VL h2
  rw[vH] at k2 k4
  rw[nN,pJ] at k3 k4
  refine⟨by simp[k1],k2,k3,fun i o' hi=>?_⟩
  cases i with
  | zero =>
   simp only[List.getElem?_cons_zero,ah] at hi
   subst hi
   have e1:∀ {α:Type} (us:List (List (Nat × α))) (f:Nat->α),eX (fun j=>decide (j<0)) 0 us f=f:=fun us f=>by
    funext r
    exact zX us 0 f (fun j u _ _=>by simp)
   exact⟨_,vc1,rfl,fun hv=>(dD.1 hv).1,by rw[e1,e1];exact h1,by rw[e1,e1]⟩
  | succ i =>
   obtain⟨s,vi,j1,j2,j3,j4⟩:=k4 i o' (by simpa using hi)
   have e1:∀ {α:Type} (u:List (Nat × α)) (us:List (List (Nat × α))) (f:Nat->α),eX (fun j=>decide (j<i+1)) 0 (u::us) f=eX (fun j=>decide (j<i)) 0 us (iD f u):=fun u us f=>by
    simp only[eX]
    rw[jq (by simp),KJ]
    congr 1
    funext j
    simp
   refine⟨s,vi,by simpa using j1,fun hv=>j2 (dD.1 hv).2,?_,?_⟩
   ·show vM B (eX _ 0 (ZM o.dst k::BJ rest ss2) (aV G)) (eX _ 0 (l1::yY ss2) (aO R)) ops o'=_
    rw[e1,e1];exact j3
   ·show s.touch=(a1C o'.op).flatMap (fun q=>oC (eX _ 0 (l1::yY ss2) (aO R)) (eX _ 0 (ZM o.dst k::BJ rest ss2) (aV G) q))++_++_
    rw[e1,e1];exact j4
theorem a3U {l:List Oper} {ss:List Sim} {j:Nat} {u:List (Nat × K)} (h:(BJ l ss)[j]?=some u):∃ o s,l[j]?=some o/\ss[j]?=some s/\u=ZM o.dst s.k:=by
 unfold BJ at h
 rw[List.getElem?_zipWith] at h
 cases h1:l[j]? with
 | none=>rw[h1] at h;cases h
 | some o =>
  cases h2:ss[j]? with
  | none=>rw[h1,h2] at h;cases h
  | some s=>rw[h1,h2] at h;simp at h;exact⟨o,s,rfl,rfl,h.symm⟩
theorem a3Y {ss:List Sim} {j:Nat} {u:List (Nat × Res)} (h:(yY ss)[j]?=some u):∃ s,ss[j]?=some s/\u=s.l:=by
 unfold yY at h
 rw[vk] at h
 cases h2:ss[j]? with
 | none=>rw[h2] at h;cases h
 | some s=>rw[h2] at h;simp at h;exact⟨s,rfl,h.symm⟩
theorem RI {d:Option Nat} {k:K} {r:Nat} (h:r ∈ (ZM d k).map (·.1)):d=some r:=by
 cases d with
 | none=>cases h
 | some s=>simp[ZM] at h;rw[h]
theorem a0Q {o:Oper} {l:List Nat} {s:Nat} (h:o.dst=some s) (hs:s ∈ l):isDst o l=true:=by simp[isDst,h,hs]
theorem WU {l:List (Nat × Res)} {t:List Nat} {r:Nat} (h:r ∈ l.map (·.1)) (ht:r ∈ t):l.any (fun q=>t.contains q.1)=true:=by
 obtain⟨q,hq,rfl⟩:=uq.1 h
 exact List.any_eq_true.2 ⟨q,hq,by simpa using ht⟩
theorem yZ {ops:Array Oper} {b:Array Nat} {ss:List Sim} (h:a2r ops b ss=true) {i j:Nat} {o o':Oper} {s s':Sim} (hij:i<j) (hi:ops[i]?=some o) (hj:ops[j]?=some o') (hs:ss[i]?=some s) (hs':ss[j]?=some s'):ZF o o'=false/\(clash ops o o' s s'=true->(b.getD j 0).testBit i=true):=by
 have hjl:j<ops.size:=(zk.1 hj).1
 have h1:=(uz.1 h) j (List.mem_range.2 hjl)
 rw[hj,hs'] at h1
 have h2:=(uz.1 h1) i (List.mem_range.2 hij)
 rw[hi,hs] at h2
 simp only[aj,jc,lg] at h2
 refine⟨h2.1,fun hc=>?_⟩
 rcases h2.2 with h3|h3
 ·rw[hc] at h3;cases h3
 ·exact h3
theorem a3v {ops:Array Oper} {o o':Oper} {s s':Sim} (h:s.l.any (fun q=>s'.touch.contains q.1)=true):clash ops o o' s s'=true:=by unfold clash;rw[h];simp
theorem b0O {ops:Array Oper} {o o':Oper} {s s':Sim} (h:s'.l.any (fun q=>s.touch.contains q.1)=true):clash ops o o' s s'=true:=by unfold clash;rw[h];simp
section
variable {B:Book} {W:World}
theorem a5f (hB:B.Ok) (hm:B.P.follows .mixedOrders=true) {id:Nat} {ops:Array Oper} {b:Array Nat} {Q:Exit->Act->World->Prop} {G:Gam} {R:Rho} {E:Env} {w:World} {a:Act} {vc:List Cd} {ss:List Sim} {G':Gam} {R':Rho}
  (h:wY B ops ops.toList G R=some (vc,ss,G',R')) (hd:qX .any ops=true) (ho:a2r ops b ss=true) (hn:a8W ops b=true) (hv:dR vc) (hM:Mem E (aO R) W w) (hf:Fits E (aO R) w B a (aV G))
  (hq:∀ E' a' w',E'.fix=E.fix->Mem E' (aO R') W w'->Fits E' (aO R') w' B a' (aV G')->Q .normal a' w'):(Code.region id ops true).wp B.P Q a w:=by
 obtain⟨hlen,hG',hR',hat⟩:=VL h
 have hlen':ss.length=ops.size:=by simpa using hlen
 refine wp_region_any hm ?_
 refine a6D (fun L a w=>L.size=ops.size/\LP ops L/\∃ E',E'.fix=E.fix/\Mem E' (eX (fun j=>L.getD j false) 0 (yY ss) (aO R)) W w/\Fits E' (eX (fun j=>L.getD j false) 0 (yY ss) (aO R)) w B a (eX (fun j=>L.getD j false) 0 (BJ ops.toList ss) (aV G))) hd ?_ ?_ _ _ _ _ (by rw[RH];exact ak _) ?_
 ·rintro L a w ⟨hL,_,E9,m0,m1,m2⟩ hall
  have hdone:∀ j,j<ops.size->L.getD j false=true:=fun j hj=>wJ hL hj (hall j hj)
  have e1:eX (fun j=>L.getD j false) 0 (yY ss) (aO R)=aO R':=by
   rw[hR']
   exact IL _ 0 _ (fun j hj=>by rw[qm];exact hdone j (by simpa [yY,hlen'] using hj))
  have e2:eX (fun j=>L.getD j false) 0 (BJ ops.toList ss) (aV G)=aV G':=by
   rw[hG']
   exact IL _ 0 _ (fun j hj=>by rw[qm];exact hdone j (by simp[BJ,hlen'] at hj;exact hj))
  rw[e1] at m1 m2
  rw[e2] at m2
  exact hq E9 a w m0 m1 m2
 ·rintro L a w i o ⟨hL,hC,E9,m0,m1,m2⟩ hio hl nO
  obtain⟨s,vi,hs,hvi,hone,a7W⟩:=hat i o (by simpa using hio)
  have hi:i<ops.size:=(zk.1 hio).1
  have hif:L.getD i false=false:=BQ hl
  have a3O:∀ j oj sj,j<i->ops[j]?=some oj->ss[j]?=some sj->clash ops oj o sj s=true->L.getD j false=true:=fun j oj sj hji hoj hsj hcl =>
   PY hn hC i o j hio hji ((yZ ho hji hoj hio hsj hs).2 hcl) nO
  have XU:∀ j oj sj,i<j->ops[j]?=some oj->ss[j]?=some sj->clash ops o oj s sj=true->L.getD j false=false:=fun j oj sj hij hoj hsj hcl=>by
   cases hjd:L.getD j false with
   | false=>rfl
   | true =>
    have:=PY hn hC j oj i hoj hij ((yZ ho hij hio hoj hs hsj).2 hcl) (hC j oj hoj hjd)
    rw[this] at hif;cases hif
  have b4h:∀ q ∈ readsOf ops o,eX (fun j=>decide (j<i)) 0 (BJ ops.toList ss) (aV G) q=eX (fun j=>L.getD j false) 0 (BJ ops.toList ss) (aV G) q:=fun q hq=>yM _ 0 _ _ rfl (fun j u hu hr=>by
   obtain⟨oj,sj,h1,h2,rfl⟩:=a3U hu
   have hdj:=RI hr
   have h1':ops[j]?=some oj:=by simpa using h1
   rw[qm]
   by_cases hji:j<i
   ·simp only[hji,decide_true]
    exact(a3O j oj sj hji h1' h2 (by simp[clash,a0Q hdj hq])).symm
   ·simp only[hji,decide_false]
    by_cases e:j=i
    ·rw[e];exact hif.symm
    ·exact(XU j oj sj (by omega) h1' h2 (by simp[clash,a0Q hdj hq])).symm)
  have a7V:∀ r ∈ s.touch,eX (fun j=>decide (j<i)) 0 (yY ss) (aO R) r=eX (fun j=>L.getD j false) 0 (yY ss) (aO R) r:=fun r hr=>yM _ 0 _ _ rfl (fun j u hu hr'=>by
   obtain⟨sj,h2,rfl⟩:=a3Y hu
   have hjl:j<ops.size:=by rw[<-hlen'];exact(ou.1 h2).1
   have h1':ops[j]?=some ops[j]:=zx hjl
   rw[qm]
   by_cases hji:j<i
   ·simp only[hji,decide_true]
    exact(a3O j _ sj hji h1' h2 (a3v (WU hr' hr))).symm
   ·simp only[hji,decide_false]
    by_cases e:j=i
    ·rw[e];exact hif.symm
    ·exact(XU j _ sj (by omega) h1' h2 (b0O (WU hr' hr))).symm)
  have b3e:vM B (eX (fun j=>L.getD j false) 0 (BJ ops.toList ss) (aV G)) (eX (fun j=>L.getD j false) 0 (yY ss) (aO R)) ops o=some (vi,s.k,s.l):=by
   rw[<-hone]
   refine(a1e b4h (fun q hq r hr=>a7V r ?_) (fun r hr=>a7V r ?_)).symm
   ·rw[a7W];exact yh _ (yh _ (Au.2 ⟨q,hq,hr⟩))
   ·rw[a7W];exact yh _ (Ap _ (by rw[hr];simp))
  have a7R:eX (fun j=>(L.setIfInBounds i true).getD j false) 0 (yY ss) (aO R)=iD (eX (fun j=>L.getD j false) 0 (yY ss) (aO R)) s.l:=by
   refine CU _ 0 i _ (by unfold yY;rw[vk,hs];rfl) (by rw[qm];exact hif) (by rw[qm];exact uP hl) (fun j hj=>nM (by omega)) (fun r hr j v hv hij hr'=>?_)
   obtain⟨sj,h2,rfl⟩:=a3Y hv
   have hjl:j<ops.size:=by rw[<-hlen'];exact(ou.1 h2).1
   have hjt:r ∈ sj.touch:=by
    obtain⟨sj',_,h3,_,_,h4⟩:=hat j ops[j] (by simp[hjl])
    rw[h2] at h3
    cases h3
    rw[h4];exact Ap _ hr'
   rw[qm]
   exact XU j _ sj hij (zx hjl) h2 (a3v (WU hr hjt))
  have b4e:eX (fun j=>(L.setIfInBounds i true).getD j false) 0 (BJ ops.toList ss) (aV G)=iD (eX (fun j=>L.getD j false) 0 (BJ ops.toList ss) (aV G)) (ZM o.dst s.k):=by
   refine CU _ 0 i _ (by unfold BJ;rw[List.getElem?_zipWith,hs];simp[hio]) (by rw[qm];exact hif) (by rw[qm];exact uP hl) (fun j hj=>nM (by omega)) (fun r hr j v hv hij hr'=>?_)
   obtain⟨oj,sj,h1,h2,rfl⟩:=a3U hv
   have h1':ops[j]?=some oj:=by simpa using h1
   have hd1:=RI hr
   have hd2:=RI hr'
   have:=(yZ ho hij hio h1' hs h2).1
   simp[ZF,hd1,hd2] at this
  have hCl:LP ops (L.setIfInBounds i true):=by
   intro j oj hoj hj e he hb'
   have hset:∀ q,L.getD q false=true->(L.setIfInBounds i true).getD q false=true:=fun q hq=>by
    by_cases e1:i=q
    ·subst e1;rw[hif] at hq;cases hq
    ·rw[nM e1];exact hq
   by_cases e1:j=i
   ·subst e1
    rw[hio] at hoj
    cases hoj
    exact hset _ (nO e he hb')
   ·rw[nM (fun e2=>e1 e2.symm)] at hj
    exact hset _ (hC j oj hoj hj e he hb')
  unfold wpOp
  rw[hio]
  refine a1f hB b3e (hvi hv) m1 m2 (fun v w' E' n1 n2 n3 n4=>⟨by simpa using hL,hCl,E',n2.fix.trans m0,?_,?_⟩)
  ·rw[a7R,<-pJ];exact n1
  ·rw[a7R,b4e,<-pJ];exact m2.put n2 (UU b3e) n3 n4
 ·have hnew:∀ j,(Array.replicate ops.size false).getD j false=false:=fun j=>EN _ j
  have e1:∀ {α:Type} (us:List (List (Nat × α))) (f:Nat->α),eX (fun j=>(Array.replicate ops.size false).getD j false) 0 us f=f:=fun us f=>by
   funext r
   exact zX us 0 f (fun j u _ _=>hnew _)
  rw[e1,e1]
  obtain⟨n1,n2⟩:=hM.grows (bg w.heap.size w).drew
  have hcl0:LP ops (Array.replicate ops.size false):=fun j o hj hj2=>by rw[hnew] at hj2;cases hj2
  exact⟨by simp,hcl0,E,rfl,n1,hf.size,hf.defers,fun s=>n2.wf _ (hf.wf s),fun s=>n2.holds _ _ (hf.wf s) (hf.holds s),hf.par⟩
end
end
end Go.Proofs.YtbkocjmmbkifjaaGreat
