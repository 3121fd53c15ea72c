/-
  Lemmas for the theorem vrelative28_holds, part 14 of 35.
-/
import Derived.Tactics
import Derived.Test.YtbkocjmmbkifjaaGreatQr13
namespace Go.Proofs.YtbkocjmmbkifjaaGreat
open Go Go.RowKit
theorem Ac:type_of% @List.mem_append_left:=@List.mem_append_left
theorem Bq:type_of% @List.mem_append_right:=@List.mem_append_right
theorem zl:type_of% @List.mem_flatMap:=@List.mem_flatMap
section
set_option linter.unusedSimpArgs false
set_option linter.unusedVariables false
abbrev Gam:=List (Nat × K)
abbrev Rho:=List (Nat × Res)
def bF:Gam->Nat->K
 | [],_=>.any
 | (s,k)::G,q=>if q=s then k else bF G q
def aU:Rho->Nat->Res
 | [],_=>.none
 | (s,x)::R,q=>if q=s then x else aU R q
def c0t (r:Nat) (R:Rho):Rho:=R.filter fun p=>p.1 != r
theorem TS {r q:Nat} (h:q≠r):∀ (R:Rho),aU (c0t r R) q=aU R q
 | []=>rfl
 | (s,x)::R=>by
  unfold c0t;rw[List.filter_cons];split
  ·simp only[aU];split
   ·rfl
   ·exact TS h R
  ·rename_i hs;have hs:s=r:=by simpa using hs
   simp only[aU];rw[bn (by rw[hs];exact h)];exact TS h R
def aft (R:Rho):List (Nat × Res)->Rho
 | []=>R
 | q::l=>aft (q::c0t q.1 R) l
theorem pY:∀ (l:List (Nat × Res)) (R:Rho),aU (aft R l)=after (aU R) l
 | [],_=>rfl
 | (r,x)::l,R=>by
  rw[aft,pY l,after];congr 1;funext q;simp only[aU];unfold bJ;split
  ·rfl
  ·rename_i h;exact TS h R
def opK (G:Nat->K):Operand->K
 | .tmp s=>G s
 | .const v=>yH v
 | .func f=>.val (.clo f .unit) ()
 | .global _=>.any
def unW:K->K
 | .when _ k=>k
 | k=>k
def b0y:K->List Cd
 | .when b _=>[b=true]
 | _=>[]
def tmpsOf (op:Op):List Nat:=op.operands.toList.filterMap fun x=>match x with
 | .tmp s=>some s
 | _=>none
def jY (ts:List Nat) (G:Nat->K) (s:Nat):K:=if ts.contains s then G s else .any
def keepW (op:Op) (s:Nat):Bool:=match op with
 | .pick (.tmp c) _ _=>c != s
 | _=>false
def unG (op:Op) (G:Nat->K) (s:Nat):K:=if keepW op s then G s else unW (G s)
def OO (op:Op) (s:Nat) (k:K):List Cd:=if keepW op s then [] else b0y k
structure Book where
 P:Program
 C:FuncId->List At->List Ctr
 T:Told
 N:Nat
 keep:Nat->Bool
def Book.Ok (B:Book):Prop:=(∀ g ts,∀ c ∈ B.C g ts,aJ B.P g c)/\∀ g ts,∀ c ∈ B.T.nc g ts,NOk B.P g c
def eqb (c b:Bool):Bool:=c==b
def b0M (B:Book):Option Nat->Bool
 | some d=>decide (d<B.N)&&!B.keep d
 | none=>true
def b1o (g:Bool):List Cd->List Cd
 | []=>[]
 | p::ps=>[g=true->dH (p::ps)]
theorem a8x {g:Bool} {l:List Cd} (h:dH (b1o g l)) (hg:g=true):dH l:=by
 cases l with
 | nil=>trivial
 | cons p ps=>exact h.1 hg
def gdK (b:Bool):K->Option Bool
 | .val .bool c=>some (eqb c b)
 | .when r (.val .bool c)=>some (r&&eqb c b)
 | _=>none
def a2G (B:Book) (ρ:Nat->Res) (k:Operand->K) (d:Option Nat) (op:Op):MK:=match gOp B.P B.T k op with
 | some (vc,kk)=>some (vc,kk,[])
 | none=>qI B.P B.C B.T ρ k d op
def xW (B:Book) (G:Nat->K) (ρ:Nat->Res) (ops:Array Oper) (o:Oper):MK:=if b0M B o.dst then (match o.guard with
 | none=>qI B.P B.C B.T ρ (opK (jY (tmpsOf o.op) G)) o.dst o.op
 | some (j,b)=>match (ops[j]?).bind (·.dst) with
  | some s=>match gdK b (G s) with
   | some g=>match a2G B ρ (opK (jY (tmpsOf o.op) (unG o.op G))) o.dst o.op with
    | some (vc,k,[])=>some (b1o g ((tmpsOf o.op).flatMap (fun s=>OO o.op s (G s))++vc),.when g k,[])
    | _=>none
   | none=>none
  | none=>none) else none
def a1M (d:Option Nat) (k:K):List (Nat × K):=match d with
 | some d=>[(d,k)]
 | none=>[]
def iQ {α:Type} (f:Nat->α):List (Nat × α)->Nat->α
 | []=>f
 | (r,x)::l=>iQ (bJ f r x) l
theorem rY:∀ (l:List (Nat × Res)) (ρ:Nat->Res),after ρ l=iQ ρ l
 | [],_=>rfl
 | (_,_)::l,_=>rY l _
def b6R (d:Option Nat) (k:K) (G:Gam):Gam:=match d with
 | some d=>(d,k)::G
 | none=>G
theorem xO (G:Gam) (d:Option Nat) (k:K):bF (b6R d k G)=iQ (bF G) (a1M d k):=by
 cases d with
 | none=>rfl
 | some d =>
  funext q;show bF ((d,k)::G) q=bJ (bF G) d k q;simp only[bF];unfold bJ;split
  ·rfl
  ·rfl
structure Fits (E:Env) (ρ:Nat->Res) (w:World) (B:Book) (a:Act) (G:Nat->K):Prop where
 size:a.tmps.size=B.N
 defers:a.defers=[]
 wf:∀ s,(G s).wf ρ
 holds:∀ s,(G s).holds E ρ w (a.eval (.tmp s))
 par:∀ s,B.keep s=true->a.eval (.tmp s)=E.par s
section
variable {B:Book} {E:Env} {ρ:Nat->Res} {W w:World} {G:Nat->K} {a:Act}
theorem b2S {c:Bool} {ka kb k:K} {vc:List Cd} (h:lV c ka kb=some (vc,k)):k.wf ρ:=by
 cases ka<;>try (simp[lV] at h;done)
 case val t x =>
  cases kb<;>try (simp[lV] at h;done)
  case val t' y =>
   simp only[lV,ig,ak] at h;obtain⟨y',h1,rfl,rfl⟩:=h;trivial
  case when b kb =>
   cases kb<;>try (simp[lV] at h;done)
   case val t' y =>
    simp only[lV,ig,ak] at h;obtain⟨y',h1,rfl,rfl⟩:=h;trivial
 case when b ka =>
  cases ka<;>try (simp[lV] at h;done)
  case val t x =>
   cases kb<;>try (simp[lV] at h;done)
   case val t' y =>
    simp only[lV,ig,ak] at h;obtain⟨y',h1,rfl,rfl⟩:=h;trivial
   case when b' kb =>
    cases kb<;>try (simp[lV] at h;done)
    case val t' y =>
     simp only[lV,ig,ak] at h;obtain⟨y',h1,rfl,rfl⟩:=h;trivial
def K.isVal:K->Bool
 | .val _ _=>true
 | _=>false
theorem KA {k:K} (h:k.isVal=true):k.wf ρ:=by cases k<;>simp_all [K.isVal];trivial
theorem b1L {op:BinOp} {k:IntKind} {a b:Int} {vc:List Cd} {kk:K} (h:b1K op k a b=some (vc,kk)):kk.isVal=true:=by cases op<;>simp only[b1K,ah,ak] at h<;>first|(cases h;done)|(obtain⟨_,rfl⟩:=h;rfl)
theorem b5n {op:BinOp} {a b:Bool} {vc:List Cd} {kk:K} (h:eqB op a b=some (vc,kk)):kk.isVal=true:=by cases op<;>simp only[eqB,ah,ak] at h<;>first|(cases h;done)|(obtain⟨_,rfl⟩:=h;rfl)
theorem TJ {r:Bool} {P:Program} {s:TypeId} {i:Nat} {ty:Ty} {y:ty.den} {vc:List Cd} {kk:K} (h:AP r P s i ty y=some (vc,kk)):kk.isVal=true:=by
 unfold AP at h;split at h<;>try(cases h;done)
 split at h<;>try(cases h;done)
 simp only[ah,ak] at h;obtain⟨_,rfl⟩:=h;cases r<;>rfl
theorem ZP {P:Program} {k:Operand->K} {op:Op} {vc:List Cd} {kk:K} (h:fG P k op=some (vc,kk)) (hw:∀ x,(k x).wf ρ):kk.wf ρ:=by
 cases op<;>try (simp[fG] at h;done)
 case move x=>simp only[fG,ah,ak] at h;rw[<-h.2];exact hw x
 case assign x=>simp only[fG,ah,ak] at h;rw[<-h.2];exact hw x
 case pick c a b =>
  simp only[fG] at h;split at h<;>first|(cases h;done)|exact b2S h
 case call c =>
  obtain⟨cl,xs,ts⟩:=c;cases cl<;>try (simp[fG] at h;done)
  rename_i bi;cases bi<;>try (simp[fG] at h;done)
  simp only[fG] at h
  (repeat' split at h)<;>first|(cases h;done)|(simp only[NG,c0g,ah,ak] at h;rw[<-h.2];trivial)
 case unOp op t x =>
  cases op<;>simp only[fG] at h<;>try(cases h;done)
  all_goals (split at h<;>first|(cases h;done)|(simp only[c0s,c0p,a0n,ah,ak] at h;rw[<-h.2];trivial))
 case binOp op t x y yt =>
  simp only[fG] at h;split at h<;>try(cases h;done)
  ·split at h<;>first|(cases h;done)|exact KA (b1L h)
  ·split at h<;>first|(cases h;done)|exact KA (b5n h)
  ·split at h<;>first|(cases h;done)|(rename_i hb;cases op<;>simp only[b6h,ah,ak] at h<;>first|(cases h;done)|(rw[<-h.2];trivial))
  ·split at h<;>try(cases h;done)
   split at h<;>try(cases h;done)
   cases op<;>simp only[eqS,ah,ak] at h<;>first|(cases h;done)|(rw[<-h.2];trivial)
 case extract x i =>
  simp only[fG] at h;split at h<;>try(cases h;done)
  ·split at h<;>first|(cases h;done)|(simp only[ah,ak] at h;rw[<-h.2];trivial)
  ·rename_i ks hkx;have hwx:=hw x;rw[hkx] at hwx;split at h<;>first|(cases h;done)|(simp only[ah,ak] at h;rw[<-h.2])
   rename_i e;exact UC.1 (hwx _ (Dh e))
 case field s x i =>
  simp only[fG] at h;split at h<;>first|(cases h;done)|exact KA (TJ h)
 case fieldAddr s x i =>
  simp only[fG] at h;split at h<;>first|(cases h;done)|exact KA (TJ h)
 all_goals
  simp only[fG] at h
  (repeat' split at h)<;>first|(cases h;done)|(simp only[JJ,a5Z,b5D,a0n,ah,ak] at h;rw[<-h.2];trivial)
theorem a8n (v:Value):(yH v).wf ρ:=by unfold yH;split<;>trivial
theorem KQ (hf:Fits E ρ w B a G):(∀ x,(opK G x).wf ρ)/\∀ x,(opK G x).holds E ρ w (a.eval x):=by
 constructor
 ·intro x;cases x with
  | tmp s=>exact hf.wf s
  | const v=>exact a8n v
  | func f=>trivial
  | global g=>trivial
 ·intro x;cases x with
  | tmp s=>exact hf.holds s
  | const v=>exact a8m v
  | func f=>exact⟨[.func (.func f) #[] #[]],rfl,[],rfl,rfl⟩
  | global g=>trivial
theorem Fits.put {E':Env} {ρ':Nat->Res} {w':World} {o:Oper} {k:K} {v:Value} (hf:Fits E ρ w B a G) (hx:Ext E ρ w E' ρ' w') (hd:b0M B o.dst=true) (hw:k.wf ρ') (hk:k.holds E' ρ' w' v):Fits E' ρ' w' B (a.put o.dst v) (iQ G (a1M o.dst k)):=by
 cases hod:o.dst with
 | none=>exact⟨hf.size,hf.defers,fun s=>hx.wf _ (hf.wf s),fun s=>hx.holds _ _ (hf.wf s) (hf.holds s),fun s hs=>by rw[hx.par];exact hf.par s hs⟩
 | some d =>
  rw[hod] at hd;have hd:d<B.N/\B.keep d=false:=by simpa [b0M] using hd
  obtain⟨hd,hkd⟩:=hd;refine⟨by simpa [Act.put] using hf.size,hf.defers,fun s=>?_,fun s=>?_,fun s hs=>?_⟩
  ·show K.wf ρ' (bJ G d k s);unfold bJ;split
   ·exact hw
   ·exact hx.wf _ (hf.wf s)
  ·show K.holds E' ρ' w' (bJ G d k s) _;unfold bJ;split
   ·rename_i e;subst e;have:(a.put (some s) v).eval (.tmp s)=v:=by
     have hs9:=hf.size;have hs8:s<a.tmps.size:=by rw[hs9];exact hd
     simp[Act.put,Act.eval,jm,hs8]
    rw[this];exact hk
   ·rename_i e;have:(a.put (some d) v).eval (.tmp s)=a.eval (.tmp s):=by simp[Act.put,Act.eval,jm,Array.getElem?_setIfInBounds,show ¬ d=s from fun e'=>e e'.symm]
    rw[this];exact hx.holds _ _ (hf.wf s) (hf.holds s)
  ·have e:¬ d=s:=fun e=>by subst e;rw[hkd] at hs;cases hs
   have:(a.put (some d) v).eval (.tmp s)=a.eval (.tmp s):=by simp[Act.put,Act.eval,jm,Array.getElem?_setIfInBounds,e]
   rw[this,hx.par];exact hf.par s hs
theorem c4n {k:K} (h:k.wf ρ) (hc:dH (b0y k)):(unW k).wf ρ:=by cases k<;>first|exact h|exact h hc.1
theorem a9z {k:K} {v:Value} (h:k.holds E ρ w v) (hc:dH (b0y k)):(unW k).holds E ρ w v:=by cases k<;>first|exact h|exact h.1 hc.1
theorem uH {α:Type _} {f:α->List Cd}:∀ {l:List α} {s:α},dH (l.flatMap f)->s ∈ l->dH (f s)
 | x::l,s,h,hs=>by
  rw[List.flatMap_cons] at h;obtain⟨h1,h2⟩:=dI.1 h;rcases jh.1 hs with rfl|hs
  ·exact h1
  ·exact uH h2 hs
theorem a8V {ts:List Nat} (hf:Fits E ρ w B a G):Fits E ρ w B a (jY ts G):=by
 refine⟨hf.size,hf.defers,fun s=>?_,fun s=>?_,hf.par⟩
 ·unfold jY;split
  ·exact hf.wf s
  ·trivial
 ·unfold jY;split
  ·exact hf.holds s
  ·trivial
theorem a4K {ts:List Nat} {op:Op} (hf:Fits E ρ w B a G) (hc:dH (ts.flatMap fun s=>OO op s (G s))):Fits E ρ w B a (jY ts (unG op G)):=by
 refine⟨hf.size,hf.defers,fun s=>?_,fun s=>?_,hf.par⟩
 ·unfold jY;split
  ·rename_i hs;have hc:=uH hc (show s ∈ ts by simpa using hs);unfold unG;unfold OO at hc;split
   ·exact hf.wf s
   ·rename_i hk;rw[bn hk] at hc;exact c4n (hf.wf s) hc
  ·trivial
 ·unfold jY;split
  ·rename_i hs;have hc:=uH hc (show s ∈ ts by simpa using hs);unfold unG;unfold OO at hc;split
   ·exact hf.holds s
   ·rename_i hk;rw[bn hk] at hc;exact a9z (hf.holds s) hc
  ·trivial
theorem a3p (hB:B.Ok) {ops:Array Oper} {o:Oper} {vc:List Cd} {kk:K} {l:List (Nat × Res)} (h:xW B G ρ ops o=some (vc,kk,l)) (hv:dH vc) (hM:Mem E ρ W w) (hf:Fits E ρ w B a G)
  {next:Act->World->Prop} {Q:Exit->Act->World->Prop} (hn:∀ v w' E',Mem E' (after ρ l) W w'->Ext E ρ w E' (after ρ l) w'->kk.wf (after ρ l)->kk.holds E' (after ρ l) w' v->next (a.put o.dst v) w') :
  if Region.wanted o (yielded ops a.tmps) then o.wp B.P a w next Q\/(o.asks B.P a w/\LetsOut Q) else next (a.put o.dst undef) w:=by
 unfold xW at h;split at h<;>try(cases h;done)
 rename_i hd;cases hg:o.guard with
 | none =>
  simp only[hg] at h;obtain⟨h1,h2⟩:=KQ (a8V (ts:=tmpsOf o.op) hf);have hw:Region.wanted o (yielded ops a.tmps)=true:=by simp[Region.wanted,hg]
  rw[dn hw];exact .inl (a0e hB.1 hB.2 h hv hM h1 h2 (fun vc' kk' hp=>ZP hp h1) next Q hn)
 | some jb =>
  obtain⟨j,b⟩:=jb;simp only[hg] at h;split at h<;>try(cases h;done)
  rename_i s hs;split at h<;>try(cases h;done)
  rename_i g hks;split at h<;>try(cases h;done)
  rename_i vc1 k1 hst;simp only[ah,ak] at h;obtain⟨rfl,rfl,rfl⟩:=h;have hwn:Region.wanted o (yielded ops a.tmps)=g:=by
   have hsv:=hf.holds s;have hv1:∀ c:Bool,a.tmps.getD s undef=.bool c->Region.wanted o (yielded ops a.tmps)=eqb c b:=fun c h1=>by
    have ht:a.tmps[s]?=some (.bool c):=by
     rw[jm] at h1;cases h2:a.tmps[s]? with
     | none=>rw[h2] at h1;cases h1
     | some v=>rw[h2] at h1;exact qw some h1
    simp[Region.wanted,hg,yielded,hs,ht];rfl
   have hv2:a.tmps.getD s undef=undef->Region.wanted o (yielded ops a.tmps)=false:=fun h1=>by
    rw[jm] at h1;cases h2:a.tmps[s]? with
    | none=>simp[Region.wanted,hg,yielded,hs,h2]
    | some v =>
     rw[h2] at h1;have h1:v=undef:=h1;subst h1;simp[Region.wanted,hg,yielded,hs,h2];try first|rfl|(intro e;cases e;done)|(simp[undef];done)|(unfold undef;simp;done)
   unfold gdK at hks;split at hks<;>first|(cases hks;done)|skip
   ·rename_i c hk;rw[hk] at hsv;have hsv:=qJ hsv;simp only[ah] at hks;rw[<-hks];exact hv1 c hsv
   ·rename_i r c hk;rw[hk] at hsv;simp only[ah] at hks;rw[<-hks];cases r with
    | true=>have hsv:=qJ (hsv.1 rfl);exact hv1 c hsv
    | false=>exact hv2 (hsv.2 rfl)
  rw[hwn];by_cases hcb:g=true
  ·rw[dn hcb];obtain⟨hv1,hv2⟩:=dI.1 (a8x hv hcb);obtain⟨h1,h2⟩:=KQ (a4K hf hv1);unfold a2G at hst;split at hst
   ·rename_i vc2 k2 hgo;simp only[ah,ak] at hst;obtain⟨rfl,rfl,_⟩:=hst;exact .inl ((b9E hgo hv2 hM h2).steps next Q (fun v w' E' m1 m2 m3 m4=>hn v w' E' m1 m2 (fun _=>m3) ⟨fun _=>m4,fun e=>by rw[hcb] at e;cases e⟩))
   ·exact .inl (a0e hB.1 hB.2 hst hv2 hM h1 h2 (fun vc' kk' hp=>ZP hp h1) next Q (fun v w' E' m1 m2 m3 m4=>hn v w' E' m1 m2 (fun _=>m3) ⟨fun _=>m4,fun e=>by rw[hcb] at e;cases e⟩))
  ·rw[bn hcb];exact hn undef w E hM (Ext.refl _ _ _) (fun e=>absurd e hcb) ⟨fun e=>absurd e hcb,fun _=>rfl⟩
def yY (B:Book) (ops:Array Oper):List Oper->Gam->Rho->Option (List Cd × Gam × Rho)
 | [],G,R=>some ([],G,R)
 | o::rest,G,R=>match xW B (bF G) (aU R) ops o with
  | some (vc,k,l)=>match yY B ops rest (b6R o.dst k G) (aft R l) with
   | some (vc',G',R')=>some (vc++vc',G',R')
   | none=>none
  | none=>none
theorem ZK {ops:Array Oper} {o:Oper} {x:List Cd × K × List (Nat × Res)} (h:xW B G ρ ops o=some x):b0M B o.dst=true:=by
 unfold xW at h;split at h
 ·assumption
 ·cases h
theorem a0a (hB:B.Ok) {ops:Array Oper} {Q:Exit->Act->World->Prop}:∀ {l:List Oper} {G:Gam} {R:Rho} {E:Env} {w:World} {a:Act} {vc:List Cd} {G':Gam} {R':Rho},yY B ops l G R=some (vc,G',R')->dH vc->Mem E (aU R) W w->Fits E (aU R) w B a (bF G) ->
  (∀ E' a' w',E'.fix=E.fix->Mem E' (aU R') W w'->Fits E' (aU R') w' B a' (bF G')->Q .normal a' w')->wpList B.P ops Q l a w
 | [],G,R,E,w,a,vc,G',R',h,hv,hM,hf,hq=>by simp only[yY,ah,ak] at h;obtain⟨_,rfl,rfl⟩:=h;exact hq E a w rfl hM hf
 | o::rest,G,R,E,w,a,vc,G',R',h,hv,hM,hf,hq=>by
  simp only[yY] at h;split at h<;>try(cases h;done)
  rename_i vc1 k l1 h1;split at h<;>try(cases h;done)
  rename_i vc2 G2 R2 h2;simp only[ah,ak] at h;obtain⟨rfl,rfl,rfl⟩:=h;obtain⟨hv1,hv2⟩:=dI.1 hv;exact a3p hB h1 hv1 hM hf (fun v w' E' m1 m2 m3 m4=>by
   rw[<-pY] at m1 m2 m3 m4;exact a0a hB h2 hv2 m1 (by rw[xO];exact hf.put m2 (ZK h1) m3 m4) (fun E2 a2 w2 hb2=>hq E2 a2 w2 (hb2.trans m2.fix)))
end
end
section
set_option linter.unusedSimpArgs false
set_option linter.unusedVariables false
set_option maxRecDepth 20000
theorem a9C {P:Program} {md:Region.Mode} {ops:Array Oper} {Q:Exit->Act->World->Prop} (I:Array Bool->Act->World->Prop) (hd:uI md ops=true)
  (hend:∀ L a w,I L a w->(∀ i,i<ops.size->L.getD i true=true)->Q .normal a w)
  (hstep:∀ L a w i o,I L a w->ops[i]?=some o->L.getD i true=false->(∀ e ∈ o.after,Region.binds md e=true->L.getD e.on false=true)->wpOp P ops Q i (I (L.setIfInBounds i true)) a w) :
  ∀ fuel L a w,IL L<=fuel->I L a w->wpAny P md ops Q fuel L a w:=by
 intro fuel
 induction fuel with
 | zero =>
  intro L a w hu hI;have hn:Region.ready md ops L=[]:=by
   cases hr:Region.ready md ops L with
   | nil=>rfl
   | cons i r =>
    exfalso;obtain⟨o,_,h2,_⟩:=ET (by rw[hr];exact je);have:=zD h2;omega
  exact⟨hn,hend L a w hI (pO hd hn)⟩
 | succ fuel ih =>
  intro L a w hu hI;refine⟨fun hn=>hend L a w hI (pO hd hn),fun i hi=>?_⟩;obtain⟨o,h1,h2,h3⟩:=ET hi;refine wpOp_mono (fun a' w' h'=>ih _ _ _ ?_ h') (hstep L a w i o hI h1 h2 h3);have:=zD h2;omega
def BK:K0->List Nat
 | .val _ _=>[]
 | .own r _=>[r]
 | .ptr r _=>[r]
 | .mW r=>[r]
def K.res:K->List Nat
 | .ptr r _=>[r]
 | .own r _=>[r]
 | .when _ k=>k.res
 | .cell r _ _=>[r]
 | .mrow r _ _=>[r]
 | .mpos r _ _ _=>[r]
 | .mW r=>[r]
 | .mix ks=>ks.flatMap BK
 | .fn _ ks=>ks.flatMap BK
 | .sng r _=>[r]
 | .pls ks=>ks.flatMap BK
 | .pcl ks _=>ks.flatMap BK
 | _=>[]
def c4h:Res->List Nat
 | .lG k=>k.res
 | _=>[]
def qK (ρ:Nat->Res) (k:K):List Nat:=k.res++k.res.flatMap fun r=>c4h (ρ r)
section
variable {P:Program} {C:FuncId->List At->List Ctr} {T:Told} {ρ ρ':Nat->Res}
theorem vX {α:Type} {f g:Nat->α} {r:Nat} (h:f r=g r):∀ (l:List (Nat × α)),iQ f l r=iQ g l r
 | []=>h
 | (q,x)::l=>by
  simp only[iQ];refine vX ?_ l;unfold bJ;split
  ·rfl
  ·exact h
theorem kQ {α:Type} {r:Nat}:∀ (l:List (Nat × α)) (f:Nat->α),r ∉ l.map (·.1)->iQ f l r=f r
 | [],_,_=>rfl
 | (q,x)::l,f,h=>by simp only[yw,jh,not_or] at h;simp only[iQ];rw[kQ l _ h.2,aS _ _ h.1]
theorem OI {k:K} (h:∀ r ∈ k.res,ρ r=ρ' r):tH ρ k=tH ρ' k:=by
 cases k<;>try rfl
 ·rename_i r v;simp only[tH,h r (by simp[K.res])]
 ·rename_i r v i;simp only[tH,h r (by simp[K.res])]
theorem qP {k:K} {t:Option Ty} (h:∀ r ∈ k.res,ρ r=ρ' r):wR ρ t k=wR ρ' t k:=by cases k<;>first|rfl|exact OI h
theorem a5p {k:K} {t:Option Ty} (h:∀ r ∈ k.res,ρ r=ρ' r):a5o ρ t k=a5o ρ' t k:=by
 have:XC ρ k=XC ρ' k:=by
  cases k<;>try rfl
  ·rename_i t x;cases t<;>rfl
  ·rename_i r v;simp only[XC,h r (by simp[K.res])]
  ·rename_i r v i;simp only[XC,h r (by simp[K.res])]
 unfold a5o;rw[this,qP h]
theorem OH {t:Option Ty}:∀ {ks:List K} {ρ ρ':Nat->Res},(∀ k ∈ ks,∀ r ∈ k.res,ρ r=ρ' r)->FV ρ t ks=FV ρ' t ks
 | [],_,_,_=>rfl
 | k::ks,ρ,ρ',h=>by
  simp only[FV,qP (h k (je ..))];split
  ·rename_i p l _;rw[OH (ρ:=after ρ l) (ρ':=after ρ' l) (fun k' hk' r hr=>by rw[rY,rY];exact vX (h k' (jd _ hk') r hr) l)]
  ·rfl
theorem zX:∀ {ts:List Ty} {ks:List K} {ρ ρ':Nat->Res},(∀ k ∈ ks,∀ r ∈ k.res,ρ r=ρ' r)->zW ρ ts ks=zW ρ' ts ks
 | [],[],_,_,_=>rfl
 | [],_::_,_,_,_=>rfl
 | _::_,[],_,_,_=>rfl
 | t::ts,k::ks,ρ,ρ',h=>by
  simp only[zW,qP (h k (je ..))];split
  ·rename_i p l _;rw[zX (ρ:=after ρ l) (ρ':=after ρ' l) (fun k' hk' r hr=>by rw[rY,rY];exact vX (h k' (jd _ hk') r hr) l)]
  ·rfl
theorem a2c {k:Operand->K} {d:Option Nat} {op:Op} (hk:∀ x,∀ r ∈ (k x).res,ρ r=ρ' r) (hd:∀ r,d=some r->ρ r=ρ' r):sD P T ρ k d op=sD P T ρ' k d op:=by
 cases op<;>try rfl
 case alloc t =>
  simp only[sD];split
  ·rw[hd _ (by first|assumption|rfl)]
  ·rfl
 case box t x =>
  simp only[sD,qP (hk x)];split
  ·rw[hd _ (by first|assumption|rfl)]
  ·rfl
 case load t x =>
  simp only[sD];split
  ·rename_i r o hx;rw[hk x r (by rw[hx];simp[K.res])]
  ·rfl
 case store t x y =>
  simp only[sD,qP (hk y)];split
  ·rename_i r o _ _ hx _;rw[hk x r (by rw[hx];simp[K.res])]
  ·rfl
 case fieldAddr s x i =>
  simp only[sD];split
  ·rename_i r o hx;rw[hk x r (by rw[hx];simp[K.res])]
  ·rfl
 case indexAddr s x i =>
  simp only[sD];split
  ·rename_i r o _ _ hx _;rw[hk x r (by rw[hx];simp[K.res])]
  ·rfl
theorem a3D {k:Operand->K} {d:Option Nat} {op:Op} (hk:∀ x,∀ r ∈ (k x).res,ρ r=ρ' r) (hd:∀ r,d=some r->ρ r=ρ' r):CW P T ρ k d op=CW P T ρ' k d op:=by
 cases op<;>try rfl
 case buildSlice t len parts =>
  simp only[CW];have h1:FV ρ (a2o P T t) (parts.toList.map fun q=>k q.2)=FV ρ' (a2o P T t) (parts.toList.map fun q=>k q.2):=OH (fun k' hk' r hr=>by
   obtain⟨q,_,rfl⟩:=jq.1 hk';exact hk q.2 r hr)
  rw[h1];split
  ·split
   ·split
    ·split
     ·rw[hd _ (by first|assumption|rfl)]
     ·rfl
    ·rfl
   ·rfl
   ·rfl
  ·rfl
 case call c =>
  obtain⟨cl,xs,ts⟩:=c;cases cl<;>try rfl
  rename_i bi;cases bi<;>try rfl
  simp only[CW];split
  ·rename_i s x t t' _ _;split
   ·simp only[a5p (hk x)];split
    ·rename_i r v hs;rw[hk s r (by rw[hs];simp[K.res])]
    ·split
     ·rw[hd _ (by first|assumption|rfl)]
     ·rfl
    ·rfl
   ·rfl
  ·rfl
theorem CU {k:K} {r:Nat} (h:r ∈ k.res):r ∈ qK ρ k:=Ac _ h
theorem b3m {k k':K} {r q:Nat} (h:r ∈ k.res) (hr:ρ r=.lG k') (hq:q ∈ k'.res):q ∈ qK ρ k:=Bq _ (zl.2 ⟨r,h,by rw[hr];exact hq⟩)
theorem DL {k:K} {t:Option Ty} (h:∀ r ∈ k.res,ρ r=ρ' r):vW ρ t k=vW ρ' t k:=by
 cases k<;>try rfl
 ·rename_i r v;simp only[vW,h r (by simp[K.res])]
 ·rename_i r v i;simp only[vW,h r (by simp[K.res])]
theorem PV {k:K} {t:Option Ty} (h:∀ r ∈ qK ρ k,ρ r=ρ' r):GL ρ t k=GL ρ' t k:=by
 have h0:∀ r ∈ k.res,ρ r=ρ' r:=fun r hr=>h r (CU hr);cases k
 case ptr r o=>simp only[GL,h0 r (by simp[K.res])]
 case mW r =>
  simp only[GL,<-h0 r (by simp[K.res])];split
  ·rename_i k9 hr;split
   ·rw[DL (ρ:=ρ) (ρ':=ρ') (fun q hq=>h q (b3m (k:=.mW r) (by simp[K.res]) hr hq))]
   ·rfl
  ·rfl
 all_goals exact DL (t:=t) h0
theorem c0d (k:K0):(k0K k).res=BK k:=by cases k<;>rfl
theorem DK:∀ {u:Ty} {ks:List K0},(∀ k ∈ ks,∀ r ∈ qK ρ (k0K k),ρ r=ρ' r)->gY ρ u ks=gY ρ' u ks
 | .unit,[],_=>rfl
 | .pair a b,k::ks,h=>by simp only[gY];rw[PV (h k (je ..)),DK (fun k' hk'=>h k' (jd _ hk'))]
 | .unit,_::_,_=>rfl
 | .pair _ _,[],_=>rfl
 | .bool,_,_=>rfl
 | .int _,_,_=>rfl
 | .lf _,_,_=>rfl
 | .list _,_,_=>rfl
 | .arr _ _,_,_=>rfl
 | .ref _,_,_=>rfl
 | .clo _ _,_,_=>rfl
 | .nls _,_,_=>rfl
theorem a7u {g:FuncId} {ks:List K0} {k:K0} {r:Nat} (hk:k ∈ ks) (h:r ∈ qK ρ (k0K k)):r ∈ qK ρ (.fn g ks):=by
 have h1:∀ q ∈ (k0K k).res,q ∈ (K.fn g ks).res:=fun q hq=>zl.2 ⟨k,hk,by rw[<-c0d];exact hq⟩;rcases tu.1 h with h|h
 ·exact CU (h1 r h)
 ·obtain⟨q,hq,h⟩:=zl.1 h;exact Bq _ (zl.2 ⟨q,h1 q hq,h⟩)
theorem a3P {k:K} {t:Ty} (h:∀ r ∈ qK ρ k,ρ r=ρ' r):WI ρ t k=WI ρ' t k:=by
 cases k
 case fn g ks =>
  simp only[WI];split
  ·rw[DK (fun k hk r hr=>h r (a7u hk hr))]
  ·rfl
 all_goals exact PV (t:=some t) h
theorem vV:∀ {ts:List Ty} {ks:List K},(∀ k ∈ ks,∀ r ∈ qK ρ k,ρ r=ρ' r)->nY ρ ts ks=nY ρ' ts ks
 | [],[],_=>rfl
 | [],_::_,_=>rfl
 | _::_,[],_=>rfl
 | t::ts,k::ks,h=>by simp only[nY];rw[a3P (h k (je ..)),vV (fun k' hk'=>h k' (jd _ hk'))]
theorem zY {ks:List K} (h:∀ k ∈ ks,∀ r ∈ qK ρ k,ρ r=ρ' r):∀ cs:List Ctr,FW ρ ks cs=FW ρ' ks cs
 | []=>rfl
 | c::cs=>by
  have e:a1Y ρ c ks=a1Y ρ' c ks:=by unfold a1Y;rw[vV h,zX (fun k hk r hr=>h k hk r (CU hr))]
  simp only[FW];rw[e,zY h cs]
theorem a0J {k:Operand->K} {op:Op} (hk:∀ x,∀ r ∈ qK ρ (k x),ρ r=ρ' r):wS P C ρ k op=wS P C ρ' k op:=by
 cases op<;>try rfl
 case makeFunc fn first caps=>cases fn<;>rfl
 case call c =>
  obtain⟨cl,xs,ts⟩:=c;cases cl<;>try rfl
  rename_i f;simp only[wS];have hcap:∀ (t:Ty) (x:t.den) (k':K),k' ∈ WL t x->k'.res=[]:=by
   intro t
   induction t with
   | pair a b _ ih =>
    intro x k' h;rcases jh.1 h with rfl|h
    ·rfl
    ·exact ih x.2 k' h
   | _=>intro x k' h;cases h
  split
  ·rename_i g t cx hf;rw[zY (fun k' hk' r hr=>by
    rcases tu.1 hk' with h|h
    ·obtain⟨q,_,rfl⟩:=jq.1 h;exact hk q r hr
    ·exfalso;unfold qK at hr;rw[hcap t cx k' h] at hr;simp at hr)]
  ·rename_i g l hf;rw[zY (fun k' hk' r hr=>by
    rcases tu.1 hk' with h|h
    ·obtain⟨q,_,rfl⟩:=jq.1 h;exact hk q r hr
    ·obtain⟨q,hq,rfl⟩:=jq.1 h;exact hk f r (by rw[hf];exact a7u hq hr))]
  ·rfl
theorem a4U {k:Operand->K} {op:Op} (hk:∀ x,∀ r ∈ (k x).res,ρ r=ρ' r):KY P ρ k op=KY P ρ' k op:=by
 cases op<;>try rfl
 case indexAddr s x i =>
  simp only[KY];split
  ·rename_i r v _ _ hx _;rw[hk x r (by rw[hx];simp[K.res])]
  ·rename_i r v _ _ _ hx _;rw[hk x r (by rw[hx];simp[K.res])]
  ·rfl
  ·rfl
 case load t x =>
  simp only[KY];split
  ·rfl
  ·rename_i r v _ hx;rw[hk x r (by rw[hx];simp[K.res])]
  ·rename_i r v _ _ hx;rw[hk x r (by rw[hx];simp[K.res])]
  ·rename_i r hx;rw[hk x r (by rw[hx];simp[K.res])]
  ·rfl
 case call c =>
  obtain⟨cl,xs,ts⟩:=c;cases cl<;>try rfl
  rename_i bi;cases bi<;>try rfl
  simp only[KY];split
  ·rename_i x t _ _;split
   ·split
    ·rename_i r v hx;rw[hk x r (by rw[hx];simp[K.res])]
    ·rename_i r v _ hx;rw[hk x r (by rw[hx];simp[K.res])]
    ·rfl
    ·rfl
   ·rfl
  ·rfl
theorem a5x {k:Operand->K} {d:Option Nat} {op:Op} (hk:∀ x,∀ r ∈ (k x).res,ρ r=ρ' r) (hd:∀ r,d=some r->ρ r=ρ' r):a1R P T ρ k d op=a1R P T ρ' k d op:=by
 cases op<;>try rfl
 case store t x y =>
  have hown:ownB ρ (k y)=ownB ρ' (k y):=by
   cases hy:k y<;>try rfl
   rename_i r v;simp only[ownB];rw[hk y r (by rw[hy];simp[K.res])]
  simp only[a1R,qP (hk y),hown];split
  ·rename_i r v i hx;rw[hk x r (by rw[hx];simp[K.res])];split
   ·rfl
   ·split
    ·rfl
    ·rename_i r2 v2 hy;rw[hk y r2 (by rw[hy];simp[K.res])]
    ·rfl
   ·rfl
  ·rename_i r v id i hx;rw[hk x r (by rw[hx];simp[K.res])]
  ·rename_i r hx;rw[hk x r (by rw[hx];simp[K.res])]
  ·rfl
 case makeSlice t n m =>
  simp only[a1R];split
  ·rw[hd _ (by first|assumption|rfl)]
  ·rfl
theorem a4E {k:Operand->K} {d:Option Nat} {op:Op} (hk:∀ x,∀ r ∈ (k x).res,ρ r=ρ' r) (hd:∀ r,d=some r->ρ r=ρ' r):UO P T ρ k d op=UO P T ρ' k d op:=by
 cases op<;>try rfl
 case buildSlice t len parts =>
  simp only[UO];split<;>try rfl
  split<;>try rfl
  rename_i r;split<;>try rfl
  split<;>try rfl
  split<;>try rfl
  split
  ·rw[hd _ (by first|assumption|rfl)]
  ·rename_i y _ _;split
   ·rename_i r2 v2 hy;rw[hk y r2 (by rw[hy];simp[K.res])]
   ·rfl
  ·rfl
 case call c =>
  obtain⟨cl,xs,ts⟩:=c;cases cl<;>try rfl
  rename_i bi;cases bi<;>try rfl
  simp only[UO];split
  ·rename_i s x t t' _ _;split
   ·split
    ·rename_i r2 v2 hx;rw[hk x r2 (by rw[hx];simp[K.res])];split
     ·split
      ·rename_i r v hs;rw[hk s r (by rw[hs];simp[K.res])]
      ·rw[hd _ (by first|assumption|rfl)]
      ·rfl
     ·rfl
    ·rfl
   ·rfl
  ·rfl
theorem PU {r:Nat} {row:Option Nat}:∀ {ts:List Ty} {ks:List K},(∀ k ∈ ks,∀ q ∈ k.res,ρ q=ρ' q)->LV ρ r row ts ks=LV ρ' r row ts ks
 | [],[],_=>rfl
 | [],_::_,_=>rfl
 | _::_,[],_=>rfl
 | t::ts,k::ks,h=>by simp only[LV];rw[DL (h k (je ..)),PU (fun k' hk'=>h k' (jd _ hk'))]
theorem a2Z {k:LK} {k0:K} (h:∀ q ∈ k0.res,ρ q=ρ' q):a6z ρ k k0=a6z ρ' k k0:=by
 cases k with
 | row e t =>
  cases k0<;>try rfl
  case own r v=>exact qw (QV e t r v) (h r (by simp[K.res]))
  case mrow r v i=>exact qw (QU e t r v i) (h r (by simp[K.res]))
 | mat e e2 t =>
  cases k0<;>try rfl
  case own r v=>exact qw (QT e e2 t r v) (h r (by simp[K.res]))
theorem IY {d:Option Nat} {ks:List K} (h:∀ k ∈ ks,∀ r ∈ qK ρ k,ρ r=ρ' r) (hd:∀ r,d=some r->ρ r=ρ' r):∀ cs:List lK,zZ ρ d ks cs=zZ ρ' d ks cs
 | []=>rfl
 | c::cs=>by
  have e:GN ρ d ks c=GN ρ' d ks c:=by
   cases c with
   | mk k args pre made =>
    simp only[GN];split
    ·rw[hd _ (by first|assumption|rfl),vV h]
    ·rfl
   | chg k args res pre out fn =>
    cases ks with
    | nil=>rfl
    | cons k0 ks =>
     have h0:∀ k ∈ k0::ks,∀ r ∈ k.res,ρ r=ρ' r:=fun k hk r hr=>h k hk r (CU hr);simp only[GN];rw[a2Z (h0 k0 (je ..)),zX (fun k hk=>h0 k (jd _ hk))];simp only[PU (ρ:=ρ) (ρ':=ρ') (ks:=ks) (fun k hk=>h0 k (jd _ hk))]
  simp only[zZ];rw[e,IY h hd cs]
theorem a0I {k:Operand->K} {d:Option Nat} {op:Op} (hk:∀ x,∀ r ∈ qK ρ (k x),ρ r=ρ' r) (hd:∀ r,d=some r->ρ r=ρ' r):AA P T ρ k d op=AA P T ρ' k d op:=by
 cases op<;>try rfl
 case call c =>
  obtain⟨cl,xs,ts⟩:=c;cases cl<;>try rfl
  rename_i f;simp only[AA];have hcap:∀ (t:Ty) (x:t.den) (k':K),k' ∈ WL t x->k'.res=[]:=by
   intro t
   induction t with
   | pair a b _ ih =>
    intro x k' h;rcases jh.1 h with rfl|h
    ·rfl
    ·exact ih x.2 k' h
   | _=>intro x k' h;cases h
  split
  ·split
   ·refine IY (fun k9 hk9 r hr=>?_) hd _;rcases tu.1 hk9 with hk9|hk9
    ·obtain⟨q,_,rfl⟩:=jq.1 hk9;exact hk q r hr
    ·exfalso;unfold qK at hr;rw[hcap _ _ _ hk9] at hr;simp at hr
   ·rfl
  ·rfl
theorem a2D {k:Operand->K} {op:Op} (hk:∀ x,∀ r ∈ (k x).res,ρ r=ρ' r):YH P ρ k op=YH P ρ' k op:=by
 unfold YH;split
 ·rename_i t s lo hi mx;have h:=OI (hk (.tmp s));split
  ·rename_i r v e;rw[e] at h;rw[h]
  ·rfl
 ·rfl
theorem a0N {k:Operand->K} {op:Op} (hk:∀ x,∀ r ∈ (k x).res,ρ r=ρ' r):wU P ρ k op=wU P ρ' k op:=by
 unfold wU;split
 ·split
  ·split
   ·rename_i x y _ _ _ _ _ _ r v id ty1 ys hx hy;rw[hk x r (by rw[hx];simp[K.res])]
   ·rfl
  ·rfl
 ·split
  ·split
   ·rename_i x y _ _ _ _ _ _ r v ty1 ys hx hy;rw[hk x r (by rw[hx];simp[K.res])]
   ·rfl
  ·rfl
 ·rfl
theorem LG {k:Operand->K} {d:Option Nat} {op:Op} (hk:∀ x,∀ r ∈ qK ρ (k x),ρ r=ρ' r) (hd:∀ r,d=some r->ρ r=ρ' r):qI P C T ρ k d op=qI P C T ρ' k d op:=by have h0:∀ x,∀ r ∈ (k x).res,ρ r=ρ' r:=fun x r hr=>hk x r (CU hr);unfold qI;rw[a2c h0 hd,a3D h0 hd,a4U h0,a5x h0 hd,a4E h0 hd,a2D h0,a0I hk hd,a0N h0,a0J hk]
end
def YO (ops:Array Oper) (o:Oper):Option Nat:=match o.guard with
 | some (j,_)=>(ops[j]?).bind (·.dst)
 | none=>none
def readsOf (ops:Array Oper) (o:Oper):List Nat:=tmpsOf o.op++(YO ops o).toList
theorem b4n (ρ:Nat->Res) (k:K):qK ρ (unW k)=qK ρ k:=by cases k<;>rfl
theorem VH (ρ:Nat->Res) (v:Value):qK ρ (yH v)=[]:=by unfold yH;split<;>rfl
def moveB:Op->Bool
 | .move _=>true
 | _=>false
theorem PI {P:Program} {C:FuncId->List At->List Ctr} {T:Told} {ρ ρ':Nat->Res} {k:Operand->K} {d:Option Nat} {op:Op} (h:moveB op=true):qI P C T ρ k d op=qI P C T ρ' k d op:=by cases op<;>simp[moveB] at h;rfl
def a3N (op:Op):List Nat:=if moveB op then [] else tmpsOf op
theorem a3o {B:Book} {G G':Nat->K} {ρ ρ':Nat->Res} {ops:Array Oper} {o:Oper} (hG:∀ s ∈ readsOf ops o,G s=G' s) (hρ:∀ s ∈ a3N o.op,∀ r ∈ qK ρ (G s),ρ r=ρ' r) (hd:∀ r,o.dst=some r->ρ r=ρ' r):xW B G ρ ops o=xW B G' ρ' ops o:=by
 have h1:jY (tmpsOf o.op) G=jY (tmpsOf o.op) G':=by
  funext s;unfold jY;split
  ·rename_i h;exact hG s (Ac _ (by simpa using h))
  ·rfl
 have h2:jY (tmpsOf o.op) (unG o.op G)=jY (tmpsOf o.op) (unG o.op G'):=by
  funext s;unfold jY;split
  ·rename_i h;unfold unG;rw[hG s (Ac _ (by simpa using h))]
  ·rfl
 have h3:(tmpsOf o.op).flatMap (fun s=>OO o.op s (G s))=(tmpsOf o.op).flatMap (fun s=>OO o.op s (G' s)):=by
  have:∀ l:List Nat,(∀ s ∈ l,G s=G' s)->l.flatMap (fun s=>OO o.op s (G s))=l.flatMap (fun s=>OO o.op s (G' s)):=by
   intro l
   induction l with
   | nil=>intro _;rfl
   | cons x l ih=>intro h;rw[List.flatMap_cons,List.flatMap_cons,h x (je ..),ih (fun s hs=>h s (jd _ hs))]
  exact this _ (fun s hs=>hG s (Ac _ hs))
 have k3:qI B.P B.C B.T ρ (opK (jY (tmpsOf o.op) G')) o.dst o.op=qI B.P B.C B.T ρ' (opK (jY (tmpsOf o.op) G')) o.dst o.op/\qI B.P B.C B.T ρ (opK (jY (tmpsOf o.op) (unG o.op G'))) o.dst o.op=qI B.P B.C B.T ρ' (opK (jY (tmpsOf o.op) (unG o.op G'))) o.dst o.op:=by
  by_cases hp:moveB o.op=true
  ·exact⟨PI hp,PI hp⟩
  unfold a3N at hρ;rw[bn hp] at hρ;have k1:∀ x,∀ r ∈ qK ρ (opK (jY (tmpsOf o.op) G') x),ρ r=ρ' r:=by
   rw[<-h1];intro x r hr;cases x with
   | tmp s =>
    have hr:r ∈ qK ρ (jY (tmpsOf o.op) G s):=hr;unfold jY at hr;split at hr
    ·rename_i h;exact hρ s (by simpa using h) r hr
    ·cases hr
   | const v=>exfalso;have hr:r ∈ qK ρ (yH v):=hr;rw[VH] at hr;cases hr
   | func f=>cases hr
   | global g=>cases hr
  have k2:∀ x,∀ r ∈ qK ρ (opK (jY (tmpsOf o.op) (unG o.op G')) x),ρ r=ρ' r:=by
   rw[<-h2];intro x r hr;cases x with
   | tmp s =>
    have hr:r ∈ qK ρ (jY (tmpsOf o.op) (unG o.op G) s):=hr;unfold jY at hr;split at hr
    ·rename_i h;refine hρ s (by simpa using h) r ?_;unfold unG at hr;split at hr
     ·exact hr
     ·rw[<-b4n];exact hr
    ·cases hr
   | const v=>exfalso;have hr:r ∈ qK ρ (yH v):=hr;rw[VH] at hr;cases hr
   | func f=>cases hr
   | global g=>cases hr
  exact⟨LG k1 hd,LG k2 hd⟩
 have k4:a2G B ρ (opK (jY (tmpsOf o.op) (unG o.op G'))) o.dst o.op=a2G B ρ' (opK (jY (tmpsOf o.op) (unG o.op G'))) o.dst o.op:=by unfold a2G;rw[k3.2]
 unfold xW;rw[h1,h2,h3,k3.1,k4];cases hg:o.guard with
 | none=>rfl
 | some jb =>
  obtain⟨j,b⟩:=jb;simp only;cases hs:(ops[j]?).bind (·.dst) with
  | none=>rfl
  | some s =>
   have:G s=G' s:=hG s (Bq _ (by simp[YO,hg,hs]));simp only[this]
end
section
set_option linter.unusedSimpArgs false
set_option linter.unusedVariables false
set_option maxRecDepth 20000
def fK {α:Type} (done:Nat->Bool):Nat->List (List (Nat × α))->(Nat->α)->Nat->α
 | _,[],f=>f
 | j,u::us,f=>fK done (j+1) us (if done j then iQ f u else f)
theorem AQ {α:Type} {d d':Nat->Bool} {r:Nat}:∀ (us:List (List (Nat × α))) (b:Nat) (f g:Nat->α),f r=g r->(∀ j u,us[j]?=some u->r ∈ u.map (·.1)->d (b+j)=d' (b+j))->fK d b us f r=fK d' b us g r
 | [],b,f,g,h,_=>h
 | u::us,b,f,g,h,hd=>by
  simp only[fK];refine AQ us (b+1) _ _ ?_ (fun j u' hu hr=>by have:=hd (j+1) u' hu hr;rwa [show b+(j+1)=b+1+j by omega] at this);by_cases hr:r ∈ u.map (·.1)
  ·have:=hd 0 u rfl hr;rw[Nat.add_zero] at this;rw[<-this];split
   ·exact vX h u
   ·exact h
  ·split<;>split<;>first
    | (rw[kQ u _ hr,kQ u _ hr];exact h)
    | (rw[kQ u _ hr];exact h)
    |exact h
theorem EH {α:Type} {d:Nat->Bool} {r:Nat}:∀ (us:List (List (Nat × α))) (b:Nat) (f:Nat->α),(∀ j u,us[j]?=some u->r ∈ u.map (·.1)->d (b+j)=false)->fK d b us f r=f r
 | [],b,f,_=>rfl
 | u::us,b,f,hd=>by
  simp only[fK];rw[EH us (b+1) _ (fun j u' hu hr=>by have:=hd (j+1) u' hu hr;rwa [show b+(j+1)=b+1+j by omega] at this)];by_cases hr:r ∈ u.map (·.1)
  ·have:=hd 0 u rfl hr;rw[Nat.add_zero] at this;rw[this];rfl
  ·split
   ·exact kQ u _ hr
   ·rfl
theorem XE {α:Type} {r:Nat}:∀ (l:List (Nat × α)) (f g:Nat->α),r ∈ l.map (·.1)->iQ f l r=iQ g l r
 | [],_,_,h=>by cases h
 | (q,x)::l,f,g,h=>by
  simp only[iQ];by_cases hr:r ∈ l.map (·.1)
  ·exact XE l _ _ hr
  ·rw[kQ l _ hr,kQ l _ hr];have:r=q:=by
    rcases jh.1 h with h|h
    ·exact h
    ·exact absurd h hr
   subst this;rw[aF,aF]
theorem GX {α:Type} {d d':Nat->Bool} {u:List (Nat × α)}:∀ (us:List (List (Nat × α))) (b i:Nat) (f:Nat->α),us[i]?=some u->d (b+i)=false->d' (b+i)=true->(∀ j,j≠b+i->d' j=d j)->(∀ r ∈ u.map (·.1),∀ j v,us[j]?=some v->i<j->r ∈ v.map (·.1)->d (b+j)=false)->fK d' b us f=iQ (fK d b us f) u
 | v::us,b,0,f,hi,hd,hd',he,hn=>by
  simp only[List.getElem?_cons_zero,ah] at hi;subst hi;simp only[Nat.add_zero] at hd hd' he;simp only[fK,hd,hd',Du,xu,if_false];funext r;have h1:fK d' (b+1) us (iQ f v) r=fK d (b+1) us (iQ f v) r:=AQ us (b+1) _ _ rfl (fun j u' hu hr=>he _ (by omega));rw[h1];by_cases hr:r ∈ v.map (·.1)
  ·rw[EH us (b+1) _ (fun j u' hu hr'=>by have:=hn r hr (j+1) u' hu (by omega) hr';rwa [show b+(j+1)=b+1+j by omega] at this)];exact XE v _ _ hr
  ·rw[kQ v _ hr];exact AQ us (b+1) _ _ (kQ v _ hr) (fun j u' hu hr=>rfl)
 | v::us,b,i+1,f,hi,hd,hd',he,hn=>by
  simp only[fK];have:(if d' b=true then iQ f v else f)=(if d b=true then iQ f v else f):=by rw[he b (by omega)]
  rw[this];exact GX us (b+1) i _ hi (by rwa [show b+1+i=b+(i+1) by omega]) (by rwa [show b+1+i=b+(i+1) by omega]) (fun j hj=>he j (by omega)) (fun r hr j v' hv hlt hr'=>by
   have:=hn r hr (j+1) v' hv (by omega) hr';rwa [show b+(j+1)=b+1+j by omega] at this)
 | [],b,i,f,hi,hd,hd',he,hn=>by simp at hi
theorem MN {α:Type} {d:Nat->Bool}:∀ (us:List (List (Nat × α))) (b:Nat) (f:Nat->α),(∀ j,j<us.length->d (b+j)=true)->fK d b us f=us.foldl iQ f
 | [],b,f,h=>rfl
 | u::us,b,f,h=>by have h0:=h 0 (by simp);rw[Nat.add_zero] at h0;simp only[fK,h0,Du,List.foldl_cons];exact MN us (b+1) _ (fun j hj=>by have:=h (j+1) (by simpa using hj);rwa [show b+(j+1)=b+1+j by omega] at this)
structure Sim where
 k:K
 l:List (Nat × Res)
 touch:List Nat
def zA (B:Book) (ops:Array Oper):List Oper->Gam->Rho->Option (List Cd × List Sim × Gam × Rho)
 | [],G,R=>some ([],[],G,R)
 | o::rest,G,R=>match xW B (bF G) (aU R) ops o with
  | some (vc,k,l)=>match zA B ops rest (b6R o.dst k G) (aft R l) with
   | some (vc',ss,G',R')=>some (vc++vc',⟨k,l,(a3N o.op).flatMap (fun s=>qK (aU R) (bF G s))++o.dst.toList++l.map (·.1)⟩::ss,G',R')
   | none=>none
  | none=>none
def isDst (o:Oper) (l:List Nat):Bool:=match o.dst with
 | some s=>l.contains s
 | none=>false
def a1D (o o':Oper):Bool:=match o.dst,o'.dst with
 | some s,some s'=>s==s'
 | _,_=>false
def clash (ops:Array Oper) (o o':Oper) (s s':Sim):Bool:=isDst o (readsOf ops o') || isDst o' (readsOf ops o) || s.l.any (fun q=>s'.touch.contains q.1) || s'.l.any (fun q=>s.touch.contains q.1)
def a4L (ops:Array Oper) (b:Array Nat) (ss:List Sim):Bool:=(List.range ops.size).all fun j=>match ops[j]?,ss[j]? with
 | some o',some s'=>(List.range j).all fun i=>match ops[i]?,ss[i]? with
  | some o,some s=>!a1D o o'&&(!clash ops o o' s s' || (b.getD j 0).testBit i)
  | _,_=>false
 | _,_=>false
def b2C (ops:Array Oper) (b:Array Nat):Bool:=(List.range ops.size).all fun j=>match ops[j]? with
 | some o=>(List.range j).all fun i=>!(b.getD j 0).testBit i || o.after.any fun e=>Region.binds .any e&&(e.on==i || (decide (e.on<j)&&decide (i<e.on)&&(b.getD e.on 0).testBit i))
 | none=>false
def QH (ops:Array Oper) (L:Array Bool):Prop:=∀ j o,ops[j]?=some o->L.getD j false=true->∀ e ∈ o.after,Region.binds .any e=true->L.getD e.on false=true
theorem UR {ops:Array Oper} {b:Array Nat} (h:b2C ops b=true) {L:Array Bool} (hc:QH ops L):∀ (j:Nat) (o:Oper) (i:Nat),ops[j]?=some o->i<j->(b.getD j 0).testBit i=true->(∀ e ∈ o.after,Region.binds .any e=true->L.getD e.on false=true)->L.getD i false=true:=by
 intro j
 induction j using Nat.strongRecOn with
 | _ j ih =>
  intro o i ho hij hb hd;have hj:j<ops.size:=(Ah.1 ho).1;have h1:=(zh.1 h) j (oq.2 hj);rw[ho] at h1;have h2:=(zh.1 h1) i (oq.2 hij);rw[hb] at h2;simp only[Bool.not_true,Bool.false_or,Array.any_eq_true'] at h2;obtain⟨e,he,h3⟩:=h2;simp only[ay,Bool.or_eq_true,jo,jc] at h3;obtain⟨h4,h5⟩:=h3;have hdone:=hd e he h4;rcases h5 with h5|⟨⟨h5,hie⟩,h6⟩
  ·rw[<-h5];exact hdone
  ·have ho':ops[e.on]?=some ops[e.on]:=Ap (by omega);exact ih e.on h5 _ i ho' hie h6 (hc e.on _ ho' hdone)
theorem OW {α:Type} {d:Nat->Bool}:∀ (us:List (List (Nat × α))) (b:Nat) (f:Nat->α),fK d (b+1) us f=fK (fun j=>d (j+1)) b us f
 | [],b,f=>rfl
 | u::us,b,f=>by simp only[fK];exact OW us (b+1) _
def FT (l:List Oper) (ss:List Sim):List (List (Nat × K)):=List.zipWith (fun o s=>a1M o.dst s.k) l ss
def BN (ss:List Sim):List (List (Nat × Res)):=ss.map (·.l)
theorem a0b {B:Book} {ops:Array Oper}:∀ {l:List Oper} {G:Gam} {R:Rho} {vc:List Cd} {ss:List Sim} {G':Gam} {R':Rho},zA B ops l G R=some (vc,ss,G',R') ->
  ss.length=l.length/\bF G'=(FT l ss).foldl iQ (bF G)/\aU R'=(BN ss).foldl iQ (aU R) /\
  ∀ i o,l[i]?=some o->∃ s vi,ss[i]?=some s/\(dH vc->dH vi)/\xW B (fK (fun j=>decide (j<i)) 0 (FT l ss) (bF G)) (fK (fun j=>decide (j<i)) 0 (BN ss) (aU R)) ops o=some (vi,s.k,s.l) /\
   s.touch=(a3N o.op).flatMap (fun q=>qK (fK (fun j=>decide (j<i)) 0 (BN ss) (aU R)) (fK (fun j=>decide (j<i)) 0 (FT l ss) (bF G) q))++o.dst.toList++s.l.map (·.1)
 | [],G,R,vc,ss,G',R',h=>by simp only[zA,ah,ak] at h;obtain⟨_,rfl,rfl,rfl⟩:=h;exact⟨rfl,rfl,rfl,fun i o hi=>by simp at hi⟩
 | o::rest,G,R,vc,ss,G',R',h=>by
  simp only[zA] at h;split at h<;>try(cases h;done)
  rename_i vc1 k l1 h1;split at h<;>try(cases h;done)
  rename_i vc2 ss2 G2 R2 h2;simp only[ah,ak] at h;obtain⟨rfl,rfl,rfl,rfl⟩:=h;obtain⟨k1,k2,k3,k4⟩:=a0b h2;rw[xO] at k2 k4;rw[pY,rY] at k3 k4;refine⟨by simp[k1],k2,k3,fun i o' hi=>?_⟩;cases i with
  | zero =>
   simp only[List.getElem?_cons_zero,ah] at hi;subst hi;have e1:∀ {α:Type} (us:List (List (Nat × α))) (f:Nat->α),fK (fun j=>decide (j<0)) 0 us f=f:=fun us f=>by funext r;exact EH us 0 f (fun j u _ _=>by simp)
   exact⟨_,vc1,rfl,fun hv=>(dI.1 hv).1,by rw[e1,e1];exact h1,by rw[e1,e1]⟩
  | succ i =>
   obtain⟨s,vi,j1,j2,j3,j4⟩:=k4 i o' (by simpa using hi);have e1:∀ {α:Type} (u:List (Nat × α)) (us:List (List (Nat × α))) (f:Nat->α),fK (fun j=>decide (j<i+1)) 0 (u::us) f=fK (fun j=>decide (j<i)) 0 us (iQ f u):=fun u us f=>by simp only[fK];rw[dn (by simp),OW];congr 1;funext j;simp
   refine⟨s,vi,by simpa using j1,fun hv=>j2 (dI.1 hv).2,?_,?_⟩
   ·show xW B (fK _ 0 (a1M o.dst k::FT rest ss2) (bF G)) (fK _ 0 (l1::BN ss2) (aU R)) ops o'=_;rw[e1,e1];exact j3
   ·show s.touch=(a3N o'.op).flatMap (fun q=>qK (fK _ 0 (l1::BN ss2) (aU R)) (fK _ 0 (a1M o.dst k::FT rest ss2) (bF G) q))++_++_;rw[e1,e1];exact j4
theorem a6x {l:List Oper} {ss:List Sim} {j:Nat} {u:List (Nat × K)} (h:(FT l ss)[j]?=some u):∃ o s,l[j]?=some o/\ss[j]?=some s/\u=a1M o.dst s.k:=by
 unfold FT at h;rw[List.getElem?_zipWith] at h;cases h1:l[j]? with
 | none=>rw[h1] at h;cases h
 | some o =>
  cases h2:ss[j]? with
  | none=>rw[h1,h2] at h;cases h
  | some s=>rw[h1,h2] at h;simp at h;exact⟨o,s,rfl,rfl,h.symm⟩
theorem a6C {ss:List Sim} {j:Nat} {u:List (Nat × Res)} (h:(BN ss)[j]?=some u):∃ s,ss[j]?=some s/\u=s.l:=by
 unfold BN at h;rw[qo] at h;cases h2:ss[j]? with
 | none=>rw[h2] at h;cases h
 | some s=>rw[h2] at h;simp at h;exact⟨s,rfl,h.symm⟩
theorem WB {d:Option Nat} {k:K} {r:Nat} (h:r ∈ (a1M d k).map (·.1)):d=some r:=by
 cases d with
 | none=>cases h
 | some s=>simp[a1M] at h;rw[h]
theorem a2S {o:Oper} {l:List Nat} {s:Nat} (h:o.dst=some s) (hs:s ∈ l):isDst o l=true:=by simp[isDst,h,hs]
theorem a0z {l:List (Nat × Res)} {t:List Nat} {r:Nat} (h:r ∈ l.map (·.1)) (ht:r ∈ t):l.any (fun q=>t.contains q.1)=true:=by obtain⟨q,hq,rfl⟩:=jq.1 h;exact yx.2 ⟨q,hq,by simpa using ht⟩
theorem CB {ops:Array Oper} {b:Array Nat} {ss:List Sim} (h:a4L ops b ss=true) {i j:Nat} {o o':Oper} {s s':Sim} (hij:i<j) (hi:ops[i]?=some o) (hj:ops[j]?=some o') (hs:ss[i]?=some s) (hs':ss[j]?=some s'):a1D o o'=false/\(clash ops o o' s s'=true->(b.getD j 0).testBit i=true):=by
 have hjl:j<ops.size:=(Ah.1 hj).1;have h1:=(zh.1 h) j (oq.2 hjl);rw[hj,hs'] at h1;have h2:=(zh.1 h1) i (oq.2 hij);rw[hi,hs] at h2;simp only[ay,zq,Bool.or_eq_true] at h2;refine⟨h2.1,fun hc=>?_⟩;rcases h2.2 with h3|h3
 ·rw[hc] at h3;cases h3
 ·exact h3
theorem a5O {ops:Array Oper} {o o':Oper} {s s':Sim} (h:s.l.any (fun q=>s'.touch.contains q.1)=true):clash ops o o' s s'=true:=by unfold clash;rw[h];simp
theorem b4L {ops:Array Oper} {o o':Oper} {s s':Sim} (h:s'.l.any (fun q=>s.touch.contains q.1)=true):clash ops o o' s s'=true:=by unfold clash;rw[h];simp
section
variable {B:Book} {W:World}
theorem a8b (hB:B.Ok) (hm:B.P.follows .mixedOrders=true) {id:Nat} {ops:Array Oper} {b:Array Nat} {Q:Exit->Act->World->Prop} {G:Gam} {R:Rho} {E:Env} {w:World} {a:Act} {vc:List Cd} {ss:List Sim} {G':Gam} {R':Rho}
  (h:zA B ops ops.toList G R=some (vc,ss,G',R')) (hd:uI .any ops=true) (ho:a4L ops b ss=true) (hn:b2C ops b=true) (hv:dH vc) (hM:Mem E (aU R) W w) (hf:Fits E (aU R) w B a (bF G))
  (hq:∀ E' a' w',E'.fix=E.fix->Mem E' (aU R') W w'->Fits E' (aU R') w' B a' (bF G')->Q .normal a' w'):(Code.region id ops true).wp B.P Q a w:=by
 obtain⟨hlen,hG',hR',hat⟩:=a0b h;have hlen':ss.length=ops.size:=by simpa using hlen
 refine wp_region_any hm ?_;refine a9C (fun L a w=>L.size=ops.size/\QH ops L/\∃ E',E'.fix=E.fix/\Mem E' (fK (fun j=>L.getD j false) 0 (BN ss) (aU R)) W w/\Fits E' (fK (fun j=>L.getD j false) 0 (BN ss) (aU R)) w B a (fK (fun j=>L.getD j false) 0 (FT ops.toList ss) (bF G))) hd ?_ ?_ _ _ _ _ (by rw[WA];exact aj _) ?_
 ·rintro L a w ⟨hL,_,E9,m0,m1,m2⟩ hall;have hdone:∀ j,j<ops.size->L.getD j false=true:=fun j hj=>yL hL hj (hall j hj);have e1:fK (fun j=>L.getD j false) 0 (BN ss) (aU R)=aU R':=by rw[hR'];exact MN _ 0 _ (fun j hj=>by rw[qg];exact hdone j (by simpa [BN,hlen'] using hj))
  have e2:fK (fun j=>L.getD j false) 0 (FT ops.toList ss) (bF G)=bF G':=by rw[hG'];exact MN _ 0 _ (fun j hj=>by rw[qg];exact hdone j (by simp[FT,hlen'] at hj;exact hj))
  rw[e1] at m1 m2;rw[e2] at m2;exact hq E9 a w m0 m1 m2
 ·rintro L a w i o ⟨hL,hC,E9,m0,m1,m2⟩ hio hl qA;obtain⟨s,vi,hs,hvi,hone,b1E⟩:=hat i o (by simpa using hio);have hi:i<ops.size:=(Ah.1 hio).1;have hif:L.getD i false=false:=FY hl;have a6r:∀ j oj sj,j<i->ops[j]?=some oj->ss[j]?=some sj->clash ops oj o sj s=true->L.getD j false=true:=fun j oj sj hji hoj hsj hcl =>
   UR hn hC i o j hio hji ((CB ho hji hoj hio hsj hs).2 hcl) qA
  have a0X:∀ j oj sj,i<j->ops[j]?=some oj->ss[j]?=some sj->clash ops o oj s sj=true->L.getD j false=false:=fun j oj sj hij hoj hsj hcl=>by
   cases hjd:L.getD j false with
   | false=>rfl
   | true =>
    have:=UR hn hC j oj i hoj hij ((CB ho hij hio hoj hs hsj).2 hcl) (hC j oj hoj hjd);rw[this] at hif;cases hif
  have b9S:∀ q ∈ readsOf ops o,fK (fun j=>decide (j<i)) 0 (FT ops.toList ss) (bF G) q=fK (fun j=>L.getD j false) 0 (FT ops.toList ss) (bF G) q:=fun q hq=>AQ _ 0 _ _ rfl (fun j u hu hr=>by
   obtain⟨oj,sj,h1,h2,rfl⟩:=a6x hu;have hdj:=WB hr;have h1':ops[j]?=some oj:=by simpa using h1
   rw[qg];by_cases hji:j<i
   ·simp only[hji,decide_true];exact(a6r j oj sj hji h1' h2 (by simp[clash,a2S hdj hq])).symm
   ·simp only[hji,decide_false];by_cases e:j=i
    ·rw[e];exact hif.symm
    ·exact(a0X j oj sj (by omega) h1' h2 (by simp[clash,a2S hdj hq])).symm)
  have b1D:∀ r ∈ s.touch,fK (fun j=>decide (j<i)) 0 (BN ss) (aU R) r=fK (fun j=>L.getD j false) 0 (BN ss) (aU R) r:=fun r hr=>AQ _ 0 _ _ rfl (fun j u hu hr'=>by
   obtain⟨sj,h2,rfl⟩:=a6C hu;have hjl:j<ops.size:=by rw[<-hlen'];exact(jy.1 h2).1
   have h1':ops[j]?=some ops[j]:=Ap hjl;rw[qg];by_cases hji:j<i
   ·simp only[hji,decide_true];exact(a6r j _ sj hji h1' h2 (a5O (a0z hr' hr))).symm
   ·simp only[hji,decide_false];by_cases e:j=i
    ·rw[e];exact hif.symm
    ·exact(a0X j _ sj (by omega) h1' h2 (b4L (a0z hr' hr))).symm)
  have b8n:xW B (fK (fun j=>L.getD j false) 0 (FT ops.toList ss) (bF G)) (fK (fun j=>L.getD j false) 0 (BN ss) (aU R)) ops o=some (vi,s.k,s.l):=by
   rw[<-hone];refine(a3o b9S (fun q hq r hr=>b1D r ?_) (fun r hr=>b1D r ?_)).symm
   ·rw[b1E];exact Ac _ (Ac _ (zl.2 ⟨q,hq,hr⟩))
   ·rw[b1E];exact Ac _ (Bq _ (by rw[hr];simp))
  have b1B:fK (fun j=>(L.setIfInBounds i true).getD j false) 0 (BN ss) (aU R)=iQ (fK (fun j=>L.getD j false) 0 (BN ss) (aU R)) s.l:=by
   refine GX _ 0 i _ (by unfold BN;rw[qo,hs];rfl) (by rw[qg];exact hif) (by rw[qg];exact wX hl) (fun j hj=>pX (by omega)) (fun r hr j v hv hij hr'=>?_);obtain⟨sj,h2,rfl⟩:=a6C hv;have hjl:j<ops.size:=by rw[<-hlen'];exact(jy.1 h2).1
   have hjt:r ∈ sj.touch:=by obtain⟨sj',_,h3,_,_,h4⟩:=hat j ops[j] (by simp[hjl]);rw[h2] at h3;cases h3;rw[h4];exact Bq _ hr'
   rw[qg];exact a0X j _ sj hij (Ap hjl) h2 (a5O (a0z hr hjt))
  have b9R:fK (fun j=>(L.setIfInBounds i true).getD j false) 0 (FT ops.toList ss) (bF G)=iQ (fK (fun j=>L.getD j false) 0 (FT ops.toList ss) (bF G)) (a1M o.dst s.k):=by
   refine GX _ 0 i _ (by unfold FT;rw[List.getElem?_zipWith,hs];simp[hio]) (by rw[qg];exact hif) (by rw[qg];exact wX hl) (fun j hj=>pX (by omega)) (fun r hr j v hv hij hr'=>?_);obtain⟨oj,sj,h1,h2,rfl⟩:=a6x hv;have h1':ops[j]?=some oj:=by simpa using h1
   have hd1:=WB hr;have hd2:=WB hr';have:=(CB ho hij hio h1' hs h2).1;simp[a1D,hd1,hd2] at this
  have hCl:QH ops (L.setIfInBounds i true):=by
   intro j oj hoj hj e he hb';have hset:∀ q,L.getD q false=true->(L.setIfInBounds i true).getD q false=true:=fun q hq=>by
    by_cases e1:i=q
    ·subst e1;rw[hif] at hq;cases hq
    ·rw[pX e1];exact hq
   by_cases e1:j=i
   ·subst e1;rw[hio] at hoj;cases hoj;exact hset _ (qA e he hb')
   ·rw[pX (fun e2=>e1 e2.symm)] at hj;exact hset _ (hC j oj hoj hj e he hb')
  unfold wpOp;rw[hio];refine a3p hB b8n (hvi hv) m1 m2 (fun v w' E' n1 n2 n3 n4=>⟨by simpa using hL,hCl,E',n2.fix.trans m0,?_,?_⟩)
  ·rw[b1B,<-rY];exact n1
  ·rw[b1B,b9R,<-rY];exact m2.put n2 (ZK b8n) n3 n4
 ·have hnew:∀ j,(Array.replicate ops.size false).getD j false=false:=fun j=>JU _ j;have e1:∀ {α:Type} (us:List (List (Nat × α))) (f:Nat->α),fK (fun j=>(Array.replicate ops.size false).getD j false) 0 us f=f:=fun us f=>by funext r;exact EH us 0 f (fun j u _ _=>hnew _)
  rw[e1,e1];obtain⟨n1,n2⟩:=hM.grows (gy w.heap.size w).drew;have hcl0:QH ops (Array.replicate ops.size false):=fun j o hj hj2=>by rw[hnew] at hj2;cases hj2
  exact⟨by simp,hcl0,E,rfl,n1,hf.size,hf.defers,fun s=>n2.wf _ (hf.wf s),fun s=>n2.holds _ _ (hf.wf s) (hf.holds s),hf.par⟩
end
end
end Go.Proofs.YtbkocjmmbkifjaaGreat
