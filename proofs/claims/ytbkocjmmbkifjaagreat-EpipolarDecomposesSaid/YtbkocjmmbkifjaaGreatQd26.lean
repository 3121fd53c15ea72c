/-
  Lemmas for the theorem vdecomposes28_holds, part 26 of 34.
-/
import Derived.Lib.SmallJoins
import Derived.OpenShut
import Derived.Test.YtbkocjmmbkifjaaGreatRows
import Derived.Test.YtbkocjmmbkifjaaGreatQd23
namespace Go.Proofs.YtbkocjmmbkifjaaGreat
open Go Go.RowKit
section
set_option linter.unusedSimpArgs false
set_option linter.unusedVariables false
set_option maxRecDepth 20000
theorem nM (t:Ty) (x:t.den):fZ t t x=some x:=by unfold fZ;rw[dif_pos rfl]
def b0e (R R':Rho):K->K
 | .val t x=>.val t x
 | .nil=>.nil
 | .ptr r o=>if (aS R r).AL&&(aS R' r).AL then .ptr r o else .any
 | .own r v=>if BL v (aS R r)&&BL 0 (aS R' r) then .own r 0 else .any
 | _=>.any
theorem b0f {R R':Rho} (k:K):leK R R' k (b0e R R' k):=by
 cases k<;>try exact trivial
 ·exact nM _ _
 ·rename_i r o
  show leK R R' _ (if _ then _ else _)
  split
  ·rename_i h
   rw[ay] at h
   exact⟨rfl,rfl,Res.sU h.1,Res.sU h.2⟩
  ·trivial
 ·rename_i r v
  show leK R R' _ (if _ then _ else _)
  split
  ·rename_i h
   rw[ay] at h
   exact⟨rfl,rfl,uV h.1,uV h.2⟩
  ·trivial
def keepR:Res->Res
 | .kJ _=>.none
 | .mat e e2 t (some l) xss v=>if l.Nodup then .mat e e2 t none (l.map fun i=>xss.getD i []) 0 else .mat e e2 t (some l) xss 0
 | x=>b1j x
theorem b0g {R R':Rho} (x:Res):leR R R' x (keepR x):=by
 cases x with
 | none=>trivial
 | gone=>trivial
 | kJ k=>trivial
 | box ps =>
  show leP ps ps
  induction ps with
  | nil=>trivial
  | cons p ps ih=>exact⟨nM _ _,ih⟩
 | row e t xs v=>exact⟨rfl,rfl,nM _ _⟩
 | fro t xs v=>exact⟨rfl,nM _ _⟩
 | mat e e2 t ids xss v =>
  cases ids
  ·exact⟨rfl,rfl,rfl,rfl,nM _ _⟩
  ·rename_i l
   show leR R R' _ (if _ then _ else _)
   split
   ·rename_i h
    exact⟨rfl,rfl,rfl,h,nM _ _⟩
   ·exact⟨rfl,rfl,rfl,rfl,nM _ _⟩
def KJ (R:Rho):List Nat->Rho
 | []=>[]
 | r::k=>(r,keepR (aS R r))::KJ R k
theorem XA (R:Rho) (r:Nat):∀ k,aS (KJ R k) r=keepR (aS R r)\/aS (KJ R k) r=.none
 | []=>.inr rfl
 | q::k=>by
  simp only[KJ,aS]
  split
  ·rename_i e;subst e;exact .inl rfl
  ·exact XA R r k
def YQ (G:Gam) (R R':Rho):List Nat->Gam
 | []=>[]
 | s::k=>(s,b0e R R' (aY G s))::YQ G R R' k
theorem WZ (G:Gam) (R R':Rho) (s:Nat):∀ k,aY (YQ G R R' k) s=b0e R R' (aY G s)\/aY (YQ G R R' k) s=.any
 | []=>.inr rfl
 | q::k=>by
  simp only[YQ,aY]
  split
  ·rename_i e;subst e;exact .inl rfl
  ·exact WZ G R R' s k
def b2m (G:Gam) (k:List Nat):List Nat:=k.flatMap fun s=>(aY G s).res
section
variable {B:Book} {W:World} {base:Fix}
theorem b5z {G:Gam} {R:Rho} {a:Act} {w:World} {k zs:List Nat} (h:St B W base G R a w):St B W base (YQ G R (KJ R zs) k) (KJ R zs) a w :=
 b6r h (fun s=>.inl (by
  rcases WZ G R (KJ R zs) s k with e|e<;>rw[e]
  ·exact b0f _
  ·cases aY G s<;>trivial)) fun r=>by
  rcases XA R r zs with e|e<;>rw[e]
  ·exact b0g _
  ·cases aS R r<;>trivial
abbrev XS:Type:=Exit × Gam × Rho
def evL (F:Gam->Rho->Option XS) (k:List Nat):Nat->Gam->Rho->Option XS
 | 0,_,_=>none
 | n+1,G,R=>match F G R with
  | some (.normal,G',R')=>evL F k n (YQ G' R' (KJ R' (b2m G' k)) k) (KJ R' (b2m G' k))
  | x=>x
def ZG (l:List Cd):Bool:=match a0T l with
 | .isTrue _=>true
 | .isFalse _=>false
theorem ZH {l:List Cd} (h:ZG l=true):dH l:=by
 unfold ZG at h
 split at h
 ·assumption
 ·cases h
def a9j (G:Gam) (R:Rho) (s:Nat):Gam × Rho:=match rX (aS R) (aY G s) with
 | some (p,l)=>((s,.val p.t p.x)::G,aft R l)
 | none=>(G,R)
def a9k (G:Gam) (R:Rho):List Nat->Gam × Rho
 | []=>(G,R)
 | s::l=>a9k (a9j G R s).1 (a9j G R s).2 l
theorem b3z {G:Gam} {R:Rho} {s:Nat} {a:Act} {w:World} (h:St B W base G R a w):St B W base (a9j G R s).1 (a9j G R s).2 a w:=by
 unfold a9j
 split
 ·rename_i p l hp
  obtain⟨E,h0,h1,h2⟩:=h
  have hp2:wE (aS R) none (aY G s)=some (p,l):=by
   cases hk:aY G s<;>rw[hk] at hp<;>first|exact hp|cases hp
  obtain⟨E',m1,m2,m3⟩:=nJ hp2 h1 (h2.wf s) (h2.holds s)
  refine⟨E',m2.fix.trans h0,by rw[oO];exact m1,h2.size,h2.defers,fun q=>?_,fun q=>?_,fun q hq=>by rw[m2.par];exact h2.par q hq⟩
  ·simp only[aY,oO]
   split
   ·trivial
   ·exact m2.wf _ (h2.wf q)
  ·simp only[aY,oO]
   split
   ·rename_i e;subst e;exact m3
   ·exact m2.holds _ _ (h2.wf q) (h2.holds q)
 ·exact h
theorem a5d {a:Act} {w:World}:∀ {l:List Nat} {G:Gam} {R:Rho},St B W base G R a w->St B W base (a9k G R l).1 (a9k G R l).2 a w
 | [],_,_,h=>h
 | s::l,_,_,h=>a5d (l:=l) (b3z (s:=s) h)
def b6w (ops:Array Oper):List Nat:=ops.toList.flatMap fun o=>tmpsOf o.op
inductive Kp where
 | mk (k:List Nat) (sub:List Kp)
def ev (B:Book) (N:Nat):Code->List Kp->Gam->Rho->Option XS
 | .skip,_,G,R=>some (.normal,G,R)
 | .label _,_,G,R=>some (.normal,G,R)
 | .exit i,_,G,R=>some (.exit i,G,R)
 | .ret,_,G,R=>some (.ret,G,R)
 | .region _ ops draw,_,G,R=>match iZ B ops draw G R with
  | some (vc,G',R')=>if ZG vc then some (.normal,G',R') else none
  | none=>match iZ B ops draw (a9k G R (b6w ops)).1 (a9k G R (b6w ops)).2 with
   | some (vc,G',R')=>if ZG vc then some (.normal,G',R') else none
   | none=>none
 | .seq a b,A,G,R=>match ev B N a (A.take (nl a)) G R with
  | some (.normal,G',R')=>ev B N b (A.drop (nl a)) G' R'
  | x=>x
 | .cond c t e,A,G,R=>match opK (aY G) c with
  | .val .bool b=>match (b:Bool) with
   | true=>ev B N t (A.take (nl t)) G R
   | false=>ev B N e (A.drop (nl t)) G R
  | _=>none
 | .block i c,A,G,R=>match ev B N c A G R with
  | some (.exit j,G',R')=>if j=i then some (.normal,G',R') else some (.exit j,G',R')
  | x=>x
 | .loop c,A,G,R=>match A with
  | .mk k sub::_=>evL (ev B N c sub) k N G R
  | []=>none
 | _,_,_,_=>none
def PX (B:Book) (W:World) (base:Fix) (x:XS) (e:Exit) (a:Act) (w:World):Prop:=e=x.1/\St B W base x.2.1 x.2.2 a w
theorem a9e (hB:B.Ok) (hm:B.P.follows .mixedOrders=true) {N:Nat}:∀ (c:Code) {A:List Kp} {G:Gam} {R:Rho} {x:XS} {a:Act} {w:World},ev B N c A G R=some x->St B W base G R a w->c.wp B.P (PX B W base x) a w:=by
 intro c
 induction c with
 | skip=>intro A G R x a w h hs;cases h;exact wp_skip ⟨rfl,hs⟩
 | label l=>intro A G R x a w h hs;cases h;exact wp_label ⟨rfl,hs⟩
 | exit i=>intro A G R x a w h hs;cases h;exact wp_exit ⟨rfl,hs⟩
 | ret=>intro A G R x a w h hs;cases h;exact wp_ret ⟨rfl,hs⟩
 | region id ops draw =>
  intro A G R x a w h hs
  simp only[ev] at h
  have key:∀ {G R vc G' R'},iZ B ops draw G R=some (vc,G',R')->(if ZG vc then some (Exit.normal,G',R') else none)=some x->St B W base G R a w->(Code.region id ops draw).wp B.P (PX B W base x) a w:=fun {G R vc G' R'} hr h hs=>by
   split at h<;>try(cases h;done)
   rename_i hv
   cases h
   refine Bq (KA (id:=id) hB hm (Q:=fun e G2 R2=>e=.normal/\G2=G'/\R2=R') hr (ZH hv) ⟨rfl,rfl,rfl⟩ hs) (fun e a' w' hp=>?_)
   obtain⟨G2,R2,⟨rfl,rfl,rfl⟩,k2⟩:=hp
   exact⟨rfl,k2⟩
  split at h
  ·rename_i hr
   exact key hr h hs
  ·split at h<;>try(cases h;done)
   rename_i hr
   exact key hr h (a5d hs)
 | seq p q ihp ihq =>
  intro A G R x a w h hs
  simp only[ev] at h
  split at h
  ·rename_i G' R' h1
   refine wp_seq (Bq (ihp h1 hs) (fun e a' w' hp=>?_))
   obtain⟨rfl,k2⟩:=hp
   exact ihq h k2
  ·rename_i hn
   refine wp_seq (Bq (ihp h hs) (fun e a' w' hp=>?_))
   obtain⟨rfl,k2⟩:=hp
   obtain⟨e,G',R'⟩:=x
   cases e with
   | normal=>exact absurd h (hn _ _)
   | _=>exact⟨rfl,k2⟩
 | cond c t e iht ihe =>
  intro A G R x a w h hs
  simp only[ev] at h
  split at h<;>try(cases h;done)
  rename_i b hk
  have hs2:=hs
  obtain⟨E,h0,h1,h2⟩:=hs2
  have hv:=(JR h2).2 c
  rw[hk] at hv
  refine wp_cond_split (pY hv) (fun hb=>?_) (fun hb=>?_)
  ·subst hb;exact iht h hs
  ·subst hb;exact ihe h hs
 | block id c ih =>
  intro A G R x a w h hs
  simp only[ev] at h
  refine wp_block ?_
  split at h
  ·rename_i j G' R' h1
   refine Bq (ih h1 hs) (fun e a' w' hp=>?_)
   obtain⟨rfl,k2⟩:=hp
   simp only[Exit.inBlock]
   split at h
   ·rename_i e;cases h;rw[iw e];exact⟨rfl,k2⟩
   ·rename_i e;cases h;rw[eu e];exact⟨rfl,k2⟩
  ·rename_i hn
   refine Bq (ih h hs) (fun e a' w' hp=>?_)
   obtain⟨rfl,k2⟩:=hp
   obtain⟨e,G',R'⟩:=x
   cases e with
   | exit j=>exact absurd h (hn _ _ _)
   | _=>exact⟨rfl,k2⟩
 | loop c ih =>
  intro A G R x a w h hs
  simp only[ev] at h
  split at h<;>try(cases h;done)
  rename_i k sub rest
  refine wp_loop_rounds N ?_
  have key:∀ n G R a w,evL (ev B N c sub) k n G R=some x->St B W base G R a w->Code.rounds B.P c (PX B W base x) n a w:=by
   intro n
   induction n with
   | zero=>intro G R a w h _;cases h
   | succ n ihn =>
    intro G R a w h hs
    rw[rounds_succ]
    simp only[evL] at h
    split at h
    ·rename_i G' R' h1
     refine Bq (ih h1 hs) (fun e a' w' hp=>?_)
     obtain⟨rfl,k2⟩:=hp
     exact ihn _ _ _ _ h (b5z k2)
    ·rename_i hn
     refine Bq (ih h hs) (fun e a' w' hp=>?_)
     obtain⟨rfl,k2⟩:=hp
     obtain⟨e,G',R'⟩:=x
     cases e with
     | normal=>exact absurd h (hn _ _)
     | _=>exact⟨rfl,k2⟩
  exact key N G R a w h hs
 | scope c ih=>intro A G R x a w h hs;cases h
 | goto l=>intro A G R x a w h hs;cases h
 | rangeFunc f ps x y _ _=>intro A G R x a w h hs;cases h
 | refuse s=>intro A G R x a w h hs;cases h
def a1q (B:Book) (G:Nat->K):(Nat->Res)->(ts:List Ty)->List ResultVar->Option (List Cd × (nest ts).den)
 | _,[],[]=>some ([],())
 | ρ,t::ts,r::rs=>match MG B G ρ t r with
  | some (p,l)=>match jO p.t t,a1q B G (after ρ l) ts rs with
   | some q,some (vc,y)=>some (q.c p.x++vc,(q.f p.x,y))
   | _,_=>none
  | none=>none
 | _,_,_=>none
theorem a1r {G:Nat->K}:∀ {ts:List Ty} {rs:List ResultVar} {ρ:Nat->Res} {vc:List Cd} {y:(nest ts).den},a1q B G ρ ts rs=some (vc,y)->dH vc->VX B G ρ ts rs y
 | [],[],_,_,_,_,_=>trivial
 | t::ts,r::rs,ρ,vc,y,h,hv=>by
  simp only[a1q] at h
  split at h<;>try(cases h;done)
  rename_i p l h1
  split at h<;>try(cases h;done)
  rename_i q vc2 y2 h2 h3
  cases h
  obtain⟨v1,v2⟩:=dG.1 hv
  simp only[VX,h1,h2]
  exact⟨v1,trivial,a1r h3 v2⟩
 | [],_::_,_,_,_,h,_=>by cases h
 | _::_,[],_,_,_,h,_=>by cases h
def b7X (B:Book) (ts:List Ty) (rs:List ResultVar):Option XS->Option (nest ts).den
 | some (.normal,G,R)=>match a1q B (aY G) (aS R) ts rs with
  | some (vc,y)=>if ZG vc then some y else none
  | none=>none
 | some (.ret,G,R)=>match a1q B (aY G) (aS R) ts rs with
  | some (vc,y)=>if ZG vc then some y else none
  | none=>none
 | _=>none
theorem b4y {ts:List Ty} {rs:List ResultVar} {x:Option XS} {y:(nest ts).den} (h:b7X B ts rs x=some y):∃ z,x=some z/\a7x B ts rs y z.1 z.2.1 z.2.2:=by
 unfold b7X at h
 split at h<;>try(cases h;done)
 all_goals
  split at h<;>try(cases h;done)
  rename_i vc y2 h2
  split at h<;>try(cases h;done)
  rename_i hv
  cases h
  exact⟨_,rfl,a1r h2 (ZH hv)⟩
def b6s:(k:LK)->Nat->Res->Option k.ty.den
 | .row e t,v,.row e' t' xs v'=>if e'==e&&gv v'==gv v then fZ (.list t') (.list t) xs else none
 | .mat e e2 t,v,.mat e' e2' t' none xss v'=>if e'==e&&e2'==e2&&gv v'==gv v then fZ (.list (.list t')) (.list (.list t)) xss else none
 | _,_,_=>none
theorem b0o {k:LK} {v:Nat} {x:Res} {y:k.ty.den} (h:b6s k v x=some y):lkP k y v x:=by
 cases k<;>cases x<;>try(cases h;done)
 ·rename_i e t e' t' xs v'
  have h:(if (e'==e&&gv v'==gv v)=true then fZ (.list t') (.list t) xs else none)=some y:=h
  by_cases hb:(e'==e&&gv v'==gv v)=true
  ·rw[iw hb] at h
   simp only[lkP,h,hb,Dq]
  ·rw[eu hb] at h;cases h
 ·rename_i e e2 t e' e2' t' ids xss v'
  cases ids<;>try(cases h;done)
  have h:(if (e'==e&&e2'==e2&&gv v'==gv v)=true then fZ (.list (.list t')) (.list (.list t)) xss else none)=some y:=h
  by_cases hb:(e'==e&&e2'==e2&&gv v'==gv v)=true
  ·rw[iw hb] at h
   simp only[lkP,h,hb,Dq]
  ·rw[eu hb] at h;cases h
def lkK (k:LK) (ρ:Nat->Res) (only:Option Nat):K->Option k.ty.den
 | .own r v=>if only.all (fun q=>q==r) then b6s k v (ρ r) else none
 | _=>none
theorem b0p {k:LK} {ρ:Nat->Res} {o:Option Nat} {x:K} {y:k.ty.den} (h:lkK k ρ o x=some y):lkG k y ρ o x:=by
 cases x<;>try(cases h;done)
 simp only[lkK] at h
 split at h<;>try(cases h;done)
 rename_i ho
 simp only[lkG,ho,Dq]
 exact b0o h
def b0N (k:LK) (G:Gam) (R:Rho):List ResultVar->Option k.ty.den
 | [.tmp s]=>lkK k (aS R) none (aY G s)
 | _=>none
theorem b0O {k:LK} {G:Gam} {R:Rho} {y:k.ty.den}:∀ {rs:List ResultVar},b0N k G R rs=some y->mkP k y (aY G) (aS R) rs
 | [.tmp s],h=>b0p h
 | [],h=>by cases h
 | [.cell _ _],h=>by cases h
 | a::_::_,h=>by cases a<;>cases h
def b7V (k:LK) (rs:List ResultVar):Option XS->Option k.ty.den
 | some (.normal,G,R)=>b0N k G R rs
 | some (.ret,G,R)=>b0N k G R rs
 | _=>none
theorem b4w {k:LK} {rs:List ResultVar} {x:Option XS} {y:k.ty.den} (h:b7V k rs x=some y):∃ z,x=some z/\b4R k y rs z.1 z.2.1 z.2.2:=by
 unfold b7V at h
 split at h<;>first|(cases h;done)|exact⟨_,rfl,b0O h⟩
def LD (B:Book) (k:LK) (G:Nat->K):(Nat->Res)->(ts:List Ty)->List ResultVar->Option (List Cd × k.ty.den × (nest ts).den)
 | ρ,[],[]=>(lkK k ρ (some 0) (G 0)).map fun o=>([],o,())
 | ρ,t::ts,r::rs=>match MG B G ρ t r with
  | some (p,l)=>match jO p.t t,LD B k G (after ρ l) ts rs with
   | some q,some (vc,o,y)=>some (q.c p.x++vc,o,(q.f p.x,y))
   | _,_=>none
  | none=>none
 | _,_,_=>none
theorem WT {k:LK} {G:Nat->K} {o:k.ty.den}:∀ {ts:List Ty} {rs:List ResultVar} {ρ:Nat->Res} {vc:List Cd} {y:(nest ts).den},LD B k G ρ ts rs=some (vc,o,y)->dH vc->VW B k o G ρ ts rs y
 | [],[],ρ,vc,y,h,_=>by
  simp only[LD,ig,au] at h
  obtain⟨o',h1,_,rfl,_⟩:=h
  exact b0p h1
 | t::ts,r::rs,ρ,vc,y,h,hv=>by
  simp only[LD] at h
  split at h<;>try(cases h;done)
  rename_i p l h1
  split at h<;>try(cases h;done)
  rename_i q vc2 o2 y2 h2 h3
  cases h
  obtain⟨v1,v2⟩:=dG.1 hv
  simp only[VW,h1,h2]
  exact⟨v1,trivial,WT h3 v2⟩
 | [],_::_,_,_,_,h,_=>by cases h
 | _::_,[],_,_,_,h,_=>by cases h
def b7W (B:Book) (k:LK) (ts:List Ty) (rs:List ResultVar):Option XS->Option (k.ty.den × (nest ts).den)
 | some (.normal,G,R)=>match LD B k (aY G) (aS R) ts rs with
  | some (vc,y)=>if ZG vc then some y else none
  | none=>none
 | some (.ret,G,R)=>match LD B k (aY G) (aS R) ts rs with
  | some (vc,y)=>if ZG vc then some y else none
  | none=>none
 | _=>none
theorem b4x {k:LK} {ts:List Ty} {rs:List ResultVar} {x:Option XS} {y:k.ty.den × (nest ts).den} (h:b7W B k ts rs x=some y):∃ z,x=some z/\b4S B k y.1 ts rs y.2 z.1 z.2.1 z.2.2:=by
 unfold b7W at h
 split at h<;>try(cases h;done)
 all_goals
  split at h<;>try(cases h;done)
  rename_i vc y2 h2
  split at h<;>try(cases h;done)
  rename_i hv
  cases h
  exact⟨_,rfl,WT h2 (ZH hv)⟩
end
def a3V (B:Book) (code:Code) (fn:Func) (k:List Kp) (ts rs:List Ty) (x:(nest ts).den):Option (nest rs).den:=b7X B rs fn.results.toList (ev B 10000 code k (rO 0 ts x) [])
def b6Y (B:Book) (code:Code) (fn:Func) (k:List Kp) (ts rs:List Ty):Ctr:=⟨ts,rs,fun x=>(a3V B code fn k ts rs x).isSome=true,fun x=>(a3V B code fn k ts rs x).getD (nest rs).zero⟩
theorem a4N {B:Book} (hB:B.Ok) (hm:B.P.follows .mixedOrders=true) {f:FuncId} {fn:Func} {code:Code} {k:List Kp} {ts rs:List Ty} (hf:B.P.funcs[f]?=some fn) (hb:fn.body=some code) (hN:fn.ntmps=B.N) (hkeep:B.keep=fun _=>false) (hargs:ts.length<=fn.ntmps):aH B.P f (b6Y B code fn k ts rs) :=
 a4O hf hb hN hkeep hargs fun x hp W base a w hs=>by
  have hp:(a3V B code fn k ts rs x).isSome=true:=hp
  obtain⟨y,hy⟩:=Bh.1 hp
  obtain⟨z,h1,h2⟩:=b4y hy
  refine Bq (a9e hB hm code h1 hs) fun e a' w' hq=>?_
  obtain⟨rfl,k⟩:=hq
  refine⟨z.2.1,z.2.2,?_,k⟩
  show a7x B rs fn.results.toList ((a3V B code fn _ ts rs x).getD (nest rs).zero) _ _ _
  rw[hy]
  exact h2
def runM (B:Book) (code:Code) (fn:Func) (ks:List Kp) (k:LK) (ts:List Ty) (x:(nest ts).den):Option k.ty.den:=b7V k fn.results.toList (ev B 10000 code ks (rO 0 ts x) [])
def c2O (B:Book) (code:Code) (fn:Func) (ks:List Kp) (k:LK) (ts:List Ty):lM:=.mk k ts (fun x=>(runM B code fn ks k ts x).isSome=true) (fun x=>(runM B code fn ks k ts x).getD k.ty.zero)
theorem b2W {B:Book} (hB:B.Ok) (hm:B.P.follows .mixedOrders=true) {f:FuncId} {fn:Func} {code:Code} {ks:List Kp} {k:LK} {ts:List Ty} (hf:B.P.funcs[f]?=some fn) (hb:fn.body=some code) (hN:fn.ntmps=B.N) (hkeep:B.keep=fun _=>false) (hargs:ts.length<=fn.ntmps):NOk B.P f (c2O B code fn ks k ts) :=
 a5A hf hb hN hkeep hargs fun x hp W base a w hs=>by
  obtain⟨y,hy⟩:=Bh.1 hp
  obtain⟨z,h1,h2⟩:=b4w hy
  refine Bq (a9e hB hm code h1 hs) fun e a' w' hq=>?_
  obtain⟨rfl,j⟩:=hq
  refine⟨z.2.1,z.2.2,?_,j⟩
  rw[hy]
  exact h2
def runN (B:Book) (code:Code) (fn:Func) (ks:List Kp) (k:LK) (ts rs:List Ty) (x:k.ty.den) (y:(nest ts).den):Option (k.ty.den × (nest rs).den):=b7W B k rs fn.results.toList (ev B 10000 code ks ((0,.own 0 0)::rO 1 ts y) [(0,k.res x 0)])
def c2P (B:Book) (code:Code) (fn:Func) (ks:List Kp) (k:LK) (ts rs:List Ty):lM:=.chg k ts rs (fun x y=>(runN B code fn ks k ts rs x y).isSome=true) (fun x y=>((runN B code fn ks k ts rs x y).getD (x,(nest rs).zero)).1) (fun x y=>((runN B code fn ks k ts rs x y).getD (x,(nest rs).zero)).2)
theorem b2X {B:Book} (hB:B.Ok) (hm:B.P.follows .mixedOrders=true) {f:FuncId} {fn:Func} {code:Code} {ks:List Kp} {k:LK} {ts rs:List Ty} (hf:B.P.funcs[f]?=some fn) (hb:fn.body=some code) (hN:fn.ntmps=B.N) (hkeep:B.keep=fun s=>s==0) (hargs:ts.length+1<=fn.ntmps):NOk B.P f (c2P B code fn ks k ts rs) :=
 a1Z hf hb hN hkeep hargs fun x y hp W base a w hs=>by
  obtain⟨r,hy⟩:=Bh.1 hp
  obtain⟨z,h1,h2⟩:=b4x hy
  refine Bq (a9e hB hm code h1 hs) fun e a' w' hq=>?_
  obtain⟨rfl,j⟩:=hq
  refine⟨z.2.1,z.2.2,?_,j⟩
  rw[hy]
  exact h2
structure Sx where
 kb:List Nat:=[]
 mt:List (Nat × Ty):=[]
 k:List Kp:=[]
 caps:List TypeId:=[]
 new:Option LK:=none
 chg:Option LK:=none
def allocs:Code->List Nat
 | .region _ ops _=>ops.toList.filterMap fun o=>match o.op with
  | .alloc _=>o.dst
  | _=>none
 | .seq a b=>allocs a++allocs b
 | .cond _ a b=>allocs a++allocs b
 | .block _ c=>allocs c
 | .loop c=>allocs c
 | _=>[]
noncomputable def tyX (t:TypeId):Option Ty:=match Tryz.prog.underlying t with
 | some (.pointer e)=>(a0F (.lf .rat) 8 e).map .ref
 | _=>a0F (.lf .rat) 8 t
def a8e (caps:FuncId->List Ty):Option Ty->At->Option Ty
 | some t,_=>some t
 | none,.ty t=>some t
 | none,.fn g=>some (.clo g (nest (caps g)))
 | none,.no=>none
noncomputable def a6y (caps:FuncId->List Ty):List TypeId->List Ty->List At->Option (List Ty)
 | _,_,[]=>some []
 | p::ps,cs,a::ats=>match a8e caps (tyX p) a,a6y caps ps cs ats with
  | some t,some ts=>some (t::ts)
  | _,_=>none
 | [],c::cs,a::ats=>match a8e caps (some c) a,a6y caps [] cs ats with
  | some t,some ts=>some (t::ts)
  | _,_=>none
 | [],[],a::ats=>match a8e caps none a,a6y caps [] [] ats with
  | some t,some ts=>some (t::ts)
  | _,_=>none
noncomputable def resT:List TypeId->Option (List Ty)
 | []=>some []
 | t::ts=>match a0F (.lf .rat) 8 t,resT ts with
  | some u,some us=>some (u::us)
  | _,_=>none
abbrev CsX:Type:=FuncId->List At->List Ctr
abbrev NsX:Type:=FuncId->List At->List lM
noncomputable def MX (C:CsX) (D:NsX) (N:Nat) (h:Hint) (kp:Nat->Bool):Book:=⟨Tryz.prog,C,told h D,N,kp⟩
noncomputable def Sx.cps (s:Sx):List Ty:=s.caps.map fun t=>.ref ((a0F (.lf .rat) 8 t).getD .unit)
def Sx.hint (s:Sx) (code:Code):Hint:=⟨allocs code,s.kb,s.mt⟩
section
variable (C:CsX) (D:NsX) (sg:FuncId->Sx) (g:FuncId) (fn:Func) (code:Code) (ats:List At)
noncomputable def xC:List Ctr:=match a6y (fun g=>(sg g).cps) fn.params.toList (sg g).cps ats,resT fn.resultTypes.toList with
 | some ts,some rs=>if ts.length<=fn.ntmps then [b6Y (MX C D fn.ntmps ((sg g).hint code) fun _=>false) code fn (sg g).k ts rs] else []
 | _,_=>[]
noncomputable def xM:List lM:=match (sg g).new,a6y (fun g=>(sg g).cps) fn.params.toList (sg g).cps ats with
 | some k,some ts=>if ts.length<=fn.ntmps then [c2O (MX C D fn.ntmps ((sg g).hint code) fun _=>false) code fn (sg g).k k ts] else []
 | _,_=>[]
noncomputable def xN:List lM:=match (sg g).chg,a6y (fun g=>(sg g).cps) fn.params.toList.tail (sg g).cps ats.tail,resT fn.resultTypes.toList with
 | some k,some ts,some rs=>if ts.length+1<=fn.ntmps then [c2P (MX C D fn.ntmps ((sg g).hint code) fun s=>s==0) code fn (sg g).k k ts rs] else []
 | _,_,_=>[]
end
noncomputable def a6s {α:Type} (g:FuncId) (F:Func->Code->List α):List α:=match Tryz.prog.funcs[g]? with
 | none=>[]
 | some fn=>match fn.body with
  | none=>[]
  | some code=>F fn code
theorem YU {α:Type} {g:FuncId} {F:Func->Code->List α} {c:α} (h:c ∈ a6s g F):∃ fn code,Tryz.prog.funcs[g]?=some fn/\fn.body=some code/\c ∈ F fn code:=by
 unfold a6s at h
 split at h<;>try(cases h;done)
 rename_i fn hf
 split at h<;>try(cases h;done)
 rename_i code hb
 exact⟨fn,code,hf,hb,h⟩
noncomputable def exB (L:Lib) (sg:FuncId->Sx):Nat->CsX × NsX
 | 0=>(fun g _=>yX L.l g,fun g _=>yX L.n g)
 | n+1=>(fun g ats=>yX L.l g++a6s g fun fn code=>xC (exB L sg n).1 (exB L sg n).2 sg g fn code ats,
  fun g ats=>yX L.n g++a6s g fun fn code=>xM (exB L sg n).1 (exB L sg n).2 sg g fn code ats++xN (exB L sg n).1 (exB L sg n).2 sg g fn code ats)
theorem a9g (L:Lib) (sg:FuncId->Sx):∀ n,(∀ g ats,∀ c ∈ (exB L sg n).1 g ats,aH Tryz.prog g c)/\∀ g ats,∀ c ∈ (exB L sg n).2 g ats,NOk Tryz.prog g c
 | 0=>⟨fun g _ c h=>L.ok (g,c) (kF h),fun g _ c h=>L.okn (g,c) (kF h)⟩
 | n+1=>by
  obtain⟨h1,h2⟩:=a9g L sg n
  refine⟨fun g ats c h=>?_,fun g ats c h=>?_⟩
  ·rcases tu.1 h with h|h
   ·exact L.ok (g,c) (kF h)
   ·obtain⟨fn,code,hf,hb,h⟩:=YU h
    unfold xC at h
    split at h<;>try(cases h;done)
    split at h<;>try(cases h;done)
    rename_i hl
    rw[ng.1 h]
    exact a4N (B:=MX _ _ _ _ _) ⟨h1,h2⟩ mixed hf hb rfl rfl hl
  ·rcases tu.1 h with h|h
   ·exact L.okn (g,c) (kF h)
   ·obtain⟨fn,code,hf,hb,h⟩:=YU h
    rcases tu.1 h with h|h
    ·unfold xM at h
     split at h<;>try(cases h;done)
     split at h<;>try(cases h;done)
     rename_i hl
     rw[ng.1 h]
     exact b2W (B:=MX _ _ _ _ _) ⟨h1,h2⟩ mixed hf hb rfl rfl hl
    ·unfold xN at h
     split at h<;>try(cases h;done)
     split at h<;>try(cases h;done)
     rename_i hl
     rw[ng.1 h]
     exact b2X (B:=MX _ _ _ _ _) ⟨h1,h2⟩ mixed hf hb rfl rfl hl
noncomputable def a6P (L:Lib) (sg:FuncId->Sx) (n:Nat) (g:FuncId) (ts rs:List Ty) (x:(nest ts).den):Option (nest rs).den:=match Tryz.prog.funcs[g]? with
 | none=>none
 | some fn=>match fn.body with
  | none=>none
  | some code=>if ts.length<=fn.ntmps then a3V (MX (exB L sg n).1 (exB L sg n).2 fn.ntmps ((sg g).hint code) fun _=>false) code fn (sg g).k ts rs x else none
theorem a4X {L:Lib} {sg:FuncId->Sx} {n:Nat} {g:FuncId} {ts rs:List Ty} {pre:(nest ts).den->Prop} {f:(nest ts).den->(nest rs).den} (h:∀ x,pre x->a6P L sg n g ts rs x=some (f x)):aH Tryz.prog g ⟨ts,rs,pre,f⟩:=by
 intro F w vs x a b hp
 have h1:=h x hp
 unfold a6P at h1
 split at h1<;>first|(cases h1;done)|skip
 rename_i fn hf
 split at h1<;>first|(cases h1;done)|skip
 rename_i code hb
 split at h1<;>first|(cases h1;done)|skip
 rename_i hl
 have t:=a4N (B:=MX (exB L sg n).1 (exB L sg n).2 fn.ntmps ((sg g).hint code) fun _=>false) (a9g L sg n) mixed hf hb rfl rfl hl (k:=(sg g).k) (rs:=rs) F w vs x a b (by show (a3V _ _ _ _ _ _ x).isSome=true;rw[h1];rfl)
 rw[show (b6Y _ code fn (sg g).k ts rs).fn x=f x by show (a3V _ _ _ _ _ _ x).getD _=_;rw[h1];rfl] at t
 exact t
end
set_option linter.unusedSimpArgs false
set_option linter.unusedVariables false
deriving instance DecidableEq for iG
deriving instance DecidableEq for aG
def Lf.deq:(l:Lf)->DecidableEq l.den
 | .rat=>inferInstanceAs (DecidableEq Rat)
 | .big=>inferInstanceAs (DecidableEq Int)
 | .gQ=>inferInstanceAs (DecidableEq aG)
 | .FV=>inferInstanceAs (DecidableEq iG)
 | .str=>inferInstanceAs (DecidableEq ByteArray)
 | .grp=>inferInstanceAs (DecidableEq (List Nat))
 | .gsl=>inferInstanceAs (DecidableEq (List Nat))
 | .OE=>inferInstanceAs (DecidableEq Nat)
 | .esl=>inferInstanceAs (DecidableEq Unit)
def Ty.deq:(t:Ty)->DecidableEq t.den
 | .bool=>inferInstanceAs (DecidableEq Bool)
 | .int _=>inferInstanceAs (DecidableEq Int)
 | .lf l=>l.deq
 | .list t=>letI:DecidableEq t.den:=t.deq
  inferInstanceAs (DecidableEq (List t.den))
 | .arr _ t=>letI:DecidableEq t.den:=t.deq
  inferInstanceAs (DecidableEq (List t.den))
 | .pair a b=>letI:DecidableEq a.den:=a.deq
  letI:DecidableEq b.den:=b.deq
  inferInstanceAs (DecidableEq (a.den × b.den))
 | .unit=>inferInstanceAs (DecidableEq Unit)
 | .ref t=>t.deq
 | .clo _ t=>t.deq
 | .nls t=>letI:DecidableEq t.den:=t.deq
  inferInstanceAs (DecidableEq (Option (List t.den)))
def TF {ts rs:List Ty} (x:(nest ts).den):List ((nest ts).den × (nest rs).den)->Option (nest rs).den
 | []=>none
 | p::l=>match (nest ts).deq x p.1 with
  | .isTrue _=>some p.2
  | .isFalse _=>TF x l
def a2Y (ts rs:List Ty) (l:List ((nest ts).den × (nest rs).den)):Ctr:=⟨ts,rs,fun x=>(TF x l).isSome=true,fun x=>(TF x l).getD (nest rs).zero⟩
theorem XM {ts rs:List Ty} {x:(nest ts).den} {y:(nest rs).den}:∀ {l:List ((nest ts).den × (nest rs).den)},TF x l=some y->(x,y) ∈ l
 | [],h=>by cases h
 | p::l,h=>by
  simp only[TF] at h
  split at h
  ·rename_i e _
   cases h
   rw[e];exact jd ..
  ·exact iy _ (XM h)
theorem ZT {P:Program} {f:FuncId} {args res:List Ty} {pre:(nest args).den->Prop} {fn:(nest args).den->(nest res).den} {d d':∀ x,Dc (pre x)} (h:aH P f (@Ctr.mk args res pre fn d)):aH P f (@Ctr.mk args res pre fn d'):=fun F w vs x a b c=>h F w vs x a b c
theorem a9f {L:Lib} {sg:FuncId->Sx} {n:Nat} {g:FuncId} {ts rs:List Ty} {l:List ((nest ts).den × (nest rs).den)} (h:∀ p ∈ l,a6P L sg n g ts rs p.1=some p.2) (x:(nest ts).den) (hx:(TF x l).isSome=true):a6P L sg n g ts rs x=some ((TF x l).getD (nest rs).zero):=by
 obtain⟨y,hy⟩:=Bh.1 hx
 have h2:=h (x,y) (XM hy)
 generalize a6P L sg n g ts rs x=e at h2 ⊢
 rw[hy]
 exact h2
theorem CP {L:Lib} {sg:FuncId->Sx} {n:Nat} {g:FuncId} {ts rs:List Ty} {l:List ((nest ts).den × (nest rs).den)} (h:∀ p ∈ l,a6P L sg n g ts rs p.1=some p.2):aH Tryz.prog g (a2Y ts rs l):=by
 exact ZT (a4X (a9f h))
def b6t:List (Nat × Sx)->FuncId->Sx
 | [],_=>{}
 | (f,s)::l,g=>if g=f then s else b6t l g
set_option maxRecDepth 100000
set_option maxHeartbeats 4000000
def a3m:Nat->Nat->Nat->Nat
 | 0,_,r=>r
 | f+1,n,r=>if (r+n / r) / 2<r then a3m f n ((r+n / r) / 2) else r
def isq (n:Nat):Nat:=a3m n n n
theorem MC {n r s:Nat} (hr:1<=r) (hs:s*s<=n):s<=(r+n / r) / 2:=by
 have h1:n<(n / r+1)*r:=by rw[uq];exact Nat.lt_mul_div_succ n hr
 rw[Ag (by omega)]
 generalize n / r=q at *
 rcases zi (r+q) (s*2) with h|h
 ·exfalso
  have h2:r+q+1<=2*s:=by omega
  have h3:(r+q+1)*(r+q+1)<=(2*s)*(2*s):=vw h2 h2
  have h4:4*((q+1)*r)<=(r+q+1)*(r+q+1):=by
   have:(4:Int)*((q+1)*r)<=(r+q+1)*(r+q+1):=by
    have h5:(0:Int)<=((r:Int)-(q+1))*((r:Int)-(q+1)):=by
     rcases Int.le_total 0 ((r:Int)-(q+1)) with h|h
     ·exact Int.mul_nonneg h h
     ·exact Int.mul_nonneg_of_nonpos_of_nonpos h h
    grind
   exact_mod_cast this
  grind
 ·exact h
theorem XU {n r:Nat} (hr:1<=r):n<((r+n / r) / 2+1)*((r+n / r) / 2+1):=by
 rcases zi n (((r+n / r) / 2+1)*((r+n / r) / 2+1)) with h|h
 ·exact h
 ·have:=MC hr h;omega
theorem TQ {n r:Nat} (hr:1<=r) (h:¬ (r+n / r) / 2<r):r*r<=n:=by
 have h1:r<=n / r:=by omega
 exact(Ag hr).1 h1
theorem XH:∀ (f n r:Nat),1<=n->1<=r->r<=f->n<(r+1)*(r+1)->a3m f n r*a3m f n r<=n/\n<(a3m f n r+1)*(a3m f n r+1)
 | 0,n,r,_,h1,h2,_=>by omega
 | f+1,n,r,hn,h1,h2,h3=>by
  simp only[a3m]
  split
  ·rename_i h
   exact XH f n _ hn (MC h1 (by omega)) (by omega) (XU h1)
  ·rename_i h
   exact⟨TQ h1 h,h3⟩
theorem JD {n:Nat} (h:1<=n):isq n*isq n<=n/\n<(isq n+1)*(isq n+1):=XH n n n h h (aj n) (by
 have:n*1<=n*n:=vk n h
 have:(n+1)*(n+1)=n*n+2*n+1:=by grind
 omega)
theorem b6A {a b n:Nat} (h1:a*a<=n) (h2:n<(b+1)*(b+1)):a<=b:=by
 rcases zi b a with h|h
 ·have:=vw (show b+1<=a from h) (show b+1<=a from h);omega
 ·exact h
theorem a9N {n r:Nat} (h:1<=n) (h1:r*r<=n) (h2:n<(r+1)*(r+1)):r=isq n:=by
 obtain⟨h3,h4⟩:=JD h
 have:=b6A h1 h4
 have:=b6A h3 h2
 omega
theorem a3M (M:Nat):Canon (List.replicate M 0++[1]):=by
 refine⟨fun g hg=>?_,by simp⟩
 rcases tu.1 hg with hg|hg
 ·rw[(Dy.1 hg).2];exact fV
 ·rw[ng.1 hg,bM];decide
theorem a3N {x:Int} {G:List Nat} {L M:Nat} (h1:val G=x.natAbs) (h2:Canon G) (h3:G.length=L) (h4:((L:Int)+1) / 2=(M:Int)):Hid (x.natAbs<(val (List.replicate M 0++[1])+1)*(val (List.replicate M 0++[1])+1)):=by
 unfold Hid
 have h5:=kK h2.1
 rw[h1,h3] at h5
 have h6:BB ^ L<=BB ^ (M+M):=uw fV (by omega)
 rw[Bj] at h6
 rw[val_append,MP,Bf,bU,show val ([]:List Nat)=0 from rfl]
 generalize BB ^ M=B at *
 rw[show 0+B*(1+BB*0)=B by simp]
 have:B*B<=(B+1)*(B+1):=vw (by omega) (by omega)
 omega
theorem b1t (p:Option Addr) (n c:Nat) (x:Int) (w:World) (hv:Raw w (.agg #[.bool false,.slice p n c]) x) (h1:1<=x) (hl:isz x<=400000000) :
  Calls Tryz.prog 181 #[.agg #[.bool false,.slice p n c]] w (fun e w'=>∃ r,e=.returned (.tuple #[r,.int .i64 0])/\dS w' r (isq x.natAbs:Nat)/\Below w.heap.size w w'):=by
 obtain⟨i0,hi,hz0,hz1,hz2⟩:=zl gJ
 have hlx:(dig x.natAbs).length<=400000000:=hl
 clear hl
 have kU:Below w.heap.size w w:=dh _ _
 go_enter Tryz.func181,Tryz.ntmps181
 go_wp2_with fail
 obtain⟨hA1,b0,c0⟩:=bx2 w rfl [.bool false,.slice p n c] 45 [.bool false,.slice none 0 0] 45
 have d0:=(hv.below hA1)
 (with_reducible refine(xW _ (x) _ d0).mono ?_)
 rintro e w1 ⟨s1,rfl,hs1,hb1⟩
 obtain⟨p1,c1,rfl,b7v,c3v⟩:=hs1.form
 have iO:=(b0.to hb1)
 have kV:=(c0.to hb1)
 have a0:=(Below.tr (Below.tr kU hA1) hb1)
 have ha0:=hs1
 have hq0:=iO
 have hq1:=kV
 have hB0:=a0
 have hc0:=hq0.cs2
 have hL:0<(dig x.natAbs).length:=xq.2 (fun e=>by have:=aT x.natAbs;rw[e] at this;simp[val] at this;omega)
 have hD:=bg (bY x.natAbs)
 have hN:=bg (aT x.natAbs)
 generalize hG:dig x.natAbs=G at *
 obtain⟨L,hLe⟩:∃ L,G.length=L:=⟨_,rfl⟩
 rw[hLe] at hlx hL ha0 ⊢
 have hne:((L:Int)==0)=false:=by simp;omega
 obtain⟨M,hM⟩:∃ M:Nat,((L:Int)+1) / 2=M:=⟨(L+1) / 2,by omega⟩
 clear b0 c0 d0 iO kV a0 hs1 b7v hA1 hb1 kU hv
 have c7j:=hB0.size
 go_wp2_with (at_make;refine Dv _ rfl _ _ 43 rfl w.heap.size 148 i0 (.int .u32 0) 1 jg hi hz0 hz1 _ _ _ _ M rfl rfl (by omega) (by omega) (by rw[hz2];omega) (by unfold maxLen;omega) (by omega) ?_)
 intro w4 hq4 a0f
 rw[iM] at hq4
 have hz4:w1.heap.size<=w4.heap.size:=a0f.size
 have hb4:w1.heap.size<w4.heap.size:=(hq4.lt _ rfl).2
 go_wp2_with (at_builtin;refine wpList_append_lies rfl _ _ 43 rfl w.heap.size 148 i0 (.int .u32 0) 1 4 jg hi hz0 hz1 hz2 rfl (by decide) _ _ _ rfl (hq4.alloc _) ⟨w4.heap.size,0,none⟩ 1 1 [.int .u32 (((1:Nat)):Int)] rfl rfl (cell_one_new _ _ _) (by simp[Value.oneCell']) (by omega) (by unfold maxLen;omega) (by omega) (by simp;omega) ?_)
 intro gu' cu' w3 hu3 a1H hgx hgl
 have hB4:Below w.heap.size w w4:=hB0.grown a0f (by omega) (fun k e=>by cases e)
 have hB3:Below w.heap.size w w3:=(hB4.alloc (by omega) _).grown a1H (by simp;omega) (fun k e=>by simp[Value.ownBlock] at e;omega)
 have hC4:Below w1.heap.size w1 w4:=(dh _ _).grown a0f (by omega) (fun k e=>by cases e)
 have hC3:Below w1.heap.size w1 w3:=(hC4.alloc (by omega) _).grown a1H (by simp;omega) (fun k e=>by simp[Value.ownBlock] at e;omega)
 have ha3:=ha0.below hC3
 have hq3:=hq1.to hC3
 have hR3:Rd w3 (.slice (some ⟨gu',0,none⟩) (List.replicate M 0++[1]).length cu') (List.replicate M 0++[1]):=Rd.dO (by rw[dn,Bf,GU];exact hu3)
 have hcan:Canon (List.replicate M 0++[1]):=a3M M
 have hval:Hid (x.natAbs<(val (List.replicate M 0++[1])+1)*(val (List.replicate M 0++[1])+1)):=a3N hN.out hD.out hLe hM
 have hlen:(List.replicate M 0++[1]).length<=400000000:=by simp;omega
 have hnn:List.replicate M 0++[1]≠[]:=by simp
 have hl0:=bg (show M+1=(List.replicate M 0++[1]).length by simp)
 generalize List.replicate M 0++[1]=l0 at *
 clear hu3 a1H hgx hgl a0f hq4 hB4 hC4 hC3 hB0 hq0 hc0 hq1 hz4 hb4 hne hM
 go_wp2_with fail
 go_loopg [5,3,6,7,8,9,26,27,28,29,30,31,32,33,34,35,36,37,38,39,40,41,42,43,44,45] (val l0) (fun k r _ _ _ _ _ _ _ _ _ _ _ _ _ _ _ _ _ _ _ _ _ _ _ _ _ wr=>∃ (l:List Nat) (pr:Option Addr) (cr:Nat),r=.slice pr l.length cr/\Rd wr (.slice pr l.length cr) l/\Rd wr (.slice p1 L c1) G/\Canon l/\l≠[]/\l.length<=400000000/\Hid (x.natAbs<(val l+1)*(val l+1))/\Hid (k=val l)/\Bx wr (w.heap.size+1) [.bool false,.slice none 0 0]/\Below w.heap.size w wr)
 case atStart=>exact⟨l0,some ⟨gu',0,none⟩,cu',by rw[hl0.out],hR3,ha3,hcan,hnn,hlen,hval,rfl,hq3,hB3⟩
 case round =>
  obtain⟨l,pr,cr,rfl,hr,hg,ca,hnl,ll,hs,hk,hq,hB⟩:=hrel
  have hzB:=hB.size
  have hR1:0<val l:=ca.pos hnl
  have HQ:Hid ((dig (val G / val l)).length<=400000000):=by
   unfold Hid
   have:=aQ (Cj (val G) (val l))
   rw[dR hD.out,hLe] at this;omega
  have HS:Hid ((dig (val l+val G / val l)).length<=2000000000):=by
   unfold Hid
   have h3:=sG ((val l:Nat):Int) ((val G / val l:Nat):Int)
   have h4:isz ((val l:Nat):Int)=l.length:=by show (dig (val l)).length=_;rw[dR ca]
   have h5:isz ((val G / val l:Nat):Int)<=400000000:=HQ.out
   have h6:isz (((val l:Nat):Int)+((val G / val l:Nat):Int))=(dig (val l+val G / val l)).length:=rfl
   omega
  go_wp2_with fail
  refine(a2e _ _ _ _ _ hg hr hD.out ca (by omega) hnl).mono ?_
  rintro e wa ⟨sq,sr,rfl,hqa,hra,hba⟩
  obtain⟨pq,cq,rfl,_,_⟩:=hqa.form
  obtain⟨pz,cz,rfl,_,_⟩:=hra.form
  have hr2:=hr.below hba
  have hg2:=hg.below hba
  have hq2:=hq.to hba
  have hB2:=Below.tr hB hba
  clear hr hg hq hB hba hra
  go_wp2_with fail
  refine(a2g _ _ _ _ _ hr2 hqa ca.1 (bC _) (by omega) (by have:=HQ.out;omega)).mono ?_
  rintro e wb ⟨sv,rfl,hown,hbb⟩
  have hsa:=Rd.dO hown
  obtain⟨ps,cs,rfl,_,_⟩:=hsa.form
  have hr3:=hr2.below hbb
  have hg3:=hg2.below hbb
  have hq3:=hq2.to hbb
  have hB3:=Below.tr hB2 hbb
  clear hr2 hg2 hq2 hB2 hbb hown hqa
  go_wp2_with fail
  obtain⟨S,hS⟩:∃ S,val l+val (dig (val G / val l))=S:=⟨_,rfl⟩
  have HSv:Hid (val l+val G / val l=S):=by unfold Hid;rw[<-hS,aT]
  rw[HSv.out] at HS
  rw[hS] at hsa ⊢
  clear hS
  refine(short_any _ (dig S) 2 _ hsa (bC _) (by omega) (by omega) HS.out).mono ?_
  rintro e wc ⟨sn,rfl,hown,hbc⟩
  rw[aT] at hown
  obtain⟨T,hT⟩:∃ T,S / 2=T:=⟨_,rfl⟩
  rw[hT] at hown
  have hna:=Rd.dO hown
  obtain⟨pn,cn,rfl,_,_⟩:=hna.form
  have hr4:=hr3.below hbc
  have hg4:=hg3.below hbc
  have hq4:=hq3.to hbc
  have hB4:=Below.tr hB3 hbc
  clear hr3 hg3 hq3 hB3 hbc hown hsa
  have HT:Hid (S / 2=T):=hT
  clear hT
  by_cases hlt:T<val l
  ·go_wp2_with fail
   have hcmp:=kY _ _ _ _ _ hna hr4 (bY _) ca
   rw[aT,show bK (T:Int) (val l:Int)=-1 from iw (by omega)] at hcmp
   refine hcmp.mono ?_
   rintro e wd ⟨rfl,hbd⟩
   have hn5:=hna.below hbd
   have hg5:=hg4.below hbd
   have hq5:=hq4.to hbd
   have hB5:=Below.tr hB4 hbd
   clear hr4 hg4 hq4 hB4 hna hbd hcmp
   go_wp2_with fail
   go_roundg (T)
   case rel =>
    have hTq:x.natAbs<(T+1)*(T+1):=by
     have:=XU (n:=val G) (r:=val l) (by omega)
     rw[HSv.out,HT.out,hN.out] at this;exact this
    have hT1:1<=T:=by
     have:=MC (n:=val G) (r:=val l) (s:=1) (by omega) (by rw[hN.out];omega)
     rw[HSv.out,HT.out] at this;exact this
    exact⟨dig T,pn,cn,rfl,hn5,hg5,bY _,fun e=>by have:=aT T;rw[e] at this;simp[val] at this;omega,by have:=aQ (Nat.le_of_lt hlt);rw[dR ca] at this;omega,by unfold Hid;rw[aT];exact hTq,by unfold Hid;rw[aT],hq5,hB5⟩
   case measure=>rw[hk.out];exact hlt
  ·go_wp2_with fail
   have hcmp:=kY _ _ _ _ _ hna hr4 (bY _) ca
   obtain⟨z,hz,hz0⟩:∃ z:Int,bK (T:Int) (val l:Int)=z/\0<=z:=by
    unfold bK
    rw[eu (by omega)]
    split
    ·exact⟨1,rfl,by omega⟩
    ·exact⟨0,rfl,by omega⟩
   rw[aT,hz] at hcmp
   refine hcmp.mono ?_
   rintro e wd ⟨rfl,hbd⟩
   have hr5:=hr4.below hbd
   have hq5:=hq4.to hbd
   have hB5:=Below.tr hB4 hbd
   clear hr4 hg4 hq4 hB4 hna hbd hcmp hz
   go_wp2_with fail
   refine(JH _ _ _ _ hr5 ca.1).mono ?_
   have HX:Hid (sg false (val l)=((isq x.natAbs:Nat):Int)):=by
    have h2:=TQ (n:=val G) (r:=val l) (by omega) (by rw[HSv.out,HT.out];exact hlt)
    rw[hN.out] at h2
    show ((val l:Nat):Int)=_
    rw[a9N (by omega) h2 hs.out]
   rintro e we ⟨rv,rfl,hrv,hbe⟩
   obtain⟨g2,p2,n2,c2,rfl⟩:=hrv.form
   have hq6:=hq5.to hbe
   obtain⟨k0,k1,k2,k3⟩:=hq6.cf2
   have hB6:=Below.tr hB5 hbe
   go_wp2_with fail
   exact uj (v:=.tuple #[.agg #[.bool g2,.slice p2 n2 c2],.int .i64 0]) (by simp[results,Tryz.results181,go_sem,k0,k1,k2,k3]) rfl ⟨_,rfl,kZ (hrv.bW hq6 rfl rfl (.bool g2) (.slice p2 n2 c2)) HX.out,(Below.bW hB6 (b:=w.heap.size+1) (by omega) (.bool g2) (.slice p2 n2 c2))⟩
def b5O:Ctr:=⟨[tZ],[tZ,tI],fun x=>(1:Int)<=(show Int from x.1)/\isz x.1<=400000000,fun x=>(((isq (show Int from x.1).natAbs:Nat):Int),(0:Int),())⟩
theorem a2p:aH Tryz.prog 181 b5O:=by
 intro F w vs x hF hvs hp
 obtain⟨v,vs',rfl,h1,h3⟩:=hvs
 have h3:vs'=[]:=h3
 subst h3
 have hr:=QS h1
 have hw:=hr.raw
 obtain⟨s,e1,h2⟩:=hr
 obtain⟨p,c,rfl,_,_⟩:=h2.form
 rw[show decide ((show Int from x.1)<0)=false from je (by have:=hp.1;omega)] at e1
 subst e1
 refine(b1t p _ c x.1 w hw hp.1 hp.2).mono ?_
 rintro e w' ⟨r,rfl,h4,hb⟩
 exact⟨_,rfl,⟨[_,_],rfl,_,_,rfl,YS h4,_,_,rfl,EZ _,rfl⟩,hb⟩
set_option maxHeartbeats 1000000
noncomputable def LZc:Lib:=LZb.c1K 151 b5M a9p
noncomputable def LZd:Lib:=((((LZc
 ).add 182 (c2J bK) JA
 ).add 181 b5O a2p
 ).add 143 (cIQ bP (fun i=>(i:Rat))) DN
 ).add 121 (b2C s19 (fun x y=>decide (x=y))) a0w
set_option maxHeartbeats 4000000
abbrev c6K:Ty:=.pair tI (.pair tI .unit)
abbrev BP:Ty:=.pair tI (.pair tI (.pair tI (.pair tI .unit)))
abbrev c4l:Ty:=.pair tI (.pair tI (.pair tI .unit))
abbrev b1X:Ty:=.pair c4l (.pair BP (.pair tI (.pair c6K .unit)))
def sta (x:Int):b1X.den:=((x,(0:Int),(0:Int),()),((1:Int),(0:Int),(0:Int),(0:Int),()),(64:Int),((0:Int),(0:Int),()),())
def f0:List (List Rat):=[[0,0,0],[0,0,1],[0,-1,0]]
abbrev rJ:Ty:=.pair BP (.pair (.arr 3 tZ) .unit)
def b4D (t:BP.den) (a b c:Int):rJ.den:=(t,[a,b,c],())
def pB:BP.den:=((0:Int),(1:Int),(0:Int),(0:Int),())
def pA:BP.den:=((1:Int),(0:Int),(0:Int),(0:Int),())
def c6n:List rJ.den:=[b4D pB 1 0 0,b4D pB (-1) 0 0,b4D pA 1 0 0,b4D pA (-1) 0 0]
def mR0:List (List Rat):=[[1,0,0],[0,-1,0],[0,0,-1]]
def mS0:List (List Rat):=[[1,0,0],[0,1,0],[0,0,1]]
abbrev LKk:LK:=.mat 39 47 tR
def sg0:FuncId->Sx:=b6t [(170,{ k:=[.mk [1,2,6,15,16,17] []] }),(169,{ k:=[.mk [2,3,5,6,20,21] [.mk [2,3,5,6,7,8,20,21] [],.mk [2,3,5,6,7,9,20,21] []]] }),(245,{ k:=[.mk [0,1,6,8] []],chg:=some (.row 47 tR) }),(244,{ new:=some LKk }),(276,{ caps:=[32] }),(184,{ k:=[.mk [1,2,6,7,13,14] [.mk [1,2,6,7,8,13,14,26,27] []]],mt:=[(11,tR)],new:=some LKk }),(242,{ caps:=[32] }),(211,{ k:=[.mk [0,1,4,7,8] []] }),(166,{ k:=[.mk [0,1,4,7,8] []] }),(185,{ caps:=[47,32] }),(273,{ caps:=[32] }),(64,{ k:=[.mk [0,4,7,8,9] []] }),(232,{ caps:=[32,32] }),(233,{ k:=[.mk [1,4,5,9,10,11] []] }),(230,{ k:=[.mk [2,6,7,8] []] }),(63,{ k:=[.mk [0,2,3,9,10,11] [],.mk [2,6,25,26,27] []] }),(56,{ k:=[.mk [2,3,6,7] []] }),(117,{ k:=[.mk [4,5,6,16,17] []] }),(209,{ k:=[.mk [0,4,5,11,12] []] }),(286,{ k:=[.mk [1,4,5,8,9,10] []] }),(285,{ caps:=[32] }),(116,{ k:=[.mk [2,5,6,7] []] }),(218,{ k:=[.mk [0,1,4,7,8] []] }),(227,{ caps:=[143] }),(226,{ caps:=[143] }),(271,{ k:=[.mk [0,1,4,7,8] []] }),(62,{ k:=[.mk [2,3,7,8,9] []] }),(149,{ k:=[.mk [0,2,3,22,23,24] [],.mk [2,3,10,11,12,44,45,46] [],.mk [2,10,11,79,80,81] []] }),(59,{ k:=[.mk [0,2,8,9,10] [],.mk [2,19,20,21] []] }),(21,{ k:=[.mk [2,3,23,24,25,135,136,137] []] }),(98,{ k:=[.mk [2,3,72,73,74] []] }),(198,{ k:=[.mk [1,2,3,4,14,15] [],.mk [2,3,4,7,23,24] []] }),(258,{ k:=[.mk [1,2,3,4,5,16,17] [],.mk [2,3,4,8,33,34] []] }),(197,{ k:=[.mk [2,5,6] []] }),(196,{ caps:=[32] }),(195,{ caps:=[32] }),(194,{ k:=[.mk [1,3,4,8,9] []],caps:=[32] }),(193,{ k:=[.mk [0,2,25,26,27] [.mk [0,2,7,25,26,27,32,33,34] []]] }),(189,{ caps:=[32,32] }),(188,{ caps:=[32,32] }),(93,{ k:=[.mk [0,2,3,11] [.mk [0,2,3,4,5,11,14] []]] }),(86,{ k:=[.mk [2,3,4,7,29] [.mk [2,3,4,7,8,9,29,32] [],.mk [2,3,4,7,12,13,29,60,61,62] []]] }),(159,{ k:=[.mk [0,1,4,5] []] }),(72,{ k:=[.mk [1,2,6,15,16,17] []] }),(154,{ kb:=[6] }),(237,{ caps:=[32,3] }),(236,{ k:=[.mk [0,4,5,12,13] [.mk [0,4,5,6,7,8,12,13] [],.mk [0,4,5,6,7,9,10,12,13] [],.mk [0,4,5,6,7,12,13,89,90] []]],chg:=some LKk }),(235,{ new:=some LKk }),(274,{ caps:=[32,32] }),(61,{ k:=[.mk [1,2,3,10,128,129] [.mk [1,2,3,10,13,128,129,132,133] []]] }),(146,{ k:=[.mk [2,9,10] []] })]
noncomputable def a8B:Ctr:=a2Y [tM] [.list tZ,tQ] [((f0,()),(([1,0,0]:List Int),(1:Rat),()))]
theorem a7b:aH Tryz.prog 86 a8B:=by
 refine CP (L:=LZd) (sg:=sg0) (n:=14) fun p hp=>?_
 rcases jw.1 hp with rfl|hp
 ·kernel_rfl
 cases hp
noncomputable def a8C:Ctr:=a2Y [tM] [tB] [((f0,()),(true,()))]
theorem a1P:aH Tryz.prog 85 a8C:=by
 refine CP (L:=LZd) (sg:=sg0) (n:=14) fun p hp=>?_
 rcases jw.1 hp with rfl|hp
 ·kernel_rfl
 cases hp
noncomputable def b5S:Ctr:=a2Y [tM] [BP,tI] [((mR0,()),(pB,(0:Int),())),((mS0,()),(pA,(0:Int),()))]
theorem b0b:aH Tryz.prog 98 b5S:=by
 refine CP (L:=LZd) (sg:=sg0) (n:=14) fun p hp=>?_
 rcases jw.1 hp with rfl|hp
 ·kernel_rfl
 rcases jw.1 hp with rfl|hp
 ·kernel_rfl
 cases hp
noncomputable def LZe:Lib:=((LZd.add 86 a8B a7b).add 85 a8C a1P).add 98 b5S b0b
noncomputable def b5Q:Ctr:=a2Y [tM] [.list rJ,tI] [((f0,()),(c6n,(0:Int),()))]
theorem a9Y:aH Tryz.prog 21 b5Q:=by
 refine CP (L:=LZe) (sg:=sg0) (n:=14) fun p hp=>?_
 rcases jw.1 hp with rfl|hp
 ·kernel_rfl
 cases hp
noncomputable def b5T:Ctr:=a2Y [b1X,b1X] [tM,tI] [((sta 0,sta 10,()),(f0,(0:Int),()))]
theorem b0c:aH Tryz.prog 11 b5T:=by
 refine CP (L:=LZd) (sg:=sg0) (n:=14) fun p hp=>?_
 rcases jw.1 hp with rfl|hp
 ·kernel_rfl
 cases hp
noncomputable def b5R:Ctr:=a2Y [tM,b1X,b1X] [tM,tI] [((f0,sta 0,sta 10,()),(f0,(0:Int),()))]
theorem a9Z:aH Tryz.prog 26 b5R:=by
 refine CP (L:=LZd) (sg:=sg0) (n:=14) fun p hp=>?_
 rcases jw.1 hp with rfl|hp
 ·kernel_rfl
 cases hp
noncomputable def LZf:Lib:=(((LZd.add 11 b5T b0c).add 26 b5R a9Z).add 21 b5Q a9Y).add 85 a8C a1P
def b6U:Ctr:=⟨[],[tB],fun _=>True,fun _=>(true,())⟩
theorem a7c:aH Tryz.prog 10 b6U:=by
 refine ZT (a4X (L:=LZf) (sg:=sg0) (n:=14) (ts:=[]) (rs:=[tB]) (pre:=fun _=>True) (f:=fun _=>(true,())) fun x _=>?_)
 obtain⟨⟩:=x
 kernel_rfl
section
open Go Go.ChangeShapes Go.WideShapes Go.ChangeAt Go.RowKit Go.Joins
theorem own:ownKnob Tryz.prog.godebug=none:=by kernel_rfl
section
variable {H:Type} {enc:TypeId × Value->H} {W:World} {base:Nat}
end
end
end Go.Proofs.YtbkocjmmbkifjaaGreat
