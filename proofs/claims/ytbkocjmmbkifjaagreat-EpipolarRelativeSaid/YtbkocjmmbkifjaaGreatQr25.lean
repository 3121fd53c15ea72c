/-
  Lemmas for the theorem vrelative28_holds, part 25 of 35.
-/
import Derived.Lib.SmallJoins
import Derived.OpenShut
import Derived.Test.YtbkocjmmbkifjaaGreatRows
import Derived.Test.YtbkocjmmbkifjaaGreatQr22
namespace Go.Proofs.YtbkocjmmbkifjaaGreat
open Go Go.RowKit
section
set_option linter.unusedSimpArgs false
set_option linter.unusedVariables false
set_option maxRecDepth 20000
theorem oJ (t:Ty) (x:t.den):gK t t x=some x:=by unfold gK;rw[dif_pos rfl]
def b2b (R R':Rho):K->K
 | .val t x=>.val t x
 | .nil=>.nil
 | .ptr r o=>if (aU R r).BH&&(aU R' r).BH then .ptr r o else .any
 | .own r v=>if CX v (aU R r)&&CX 0 (aU R' r) then .own r 0 else .any
 | _=>.any
theorem b2c {R R':Rho} (k:K):leK R R' k (b2b R R' k):=by
 cases k<;>try exact trivial
 ·exact oJ _ _
 ·rename_i r o;show leK R R' _ (if _ then _ else _);split
  ·rename_i h;rw[ay] at h;exact⟨rfl,rfl,Res.uJ h.1,Res.uJ h.2⟩
  ·trivial
 ·rename_i r v;show leK R R' _ (if _ then _ else _);split
  ·rename_i h;rw[ay] at h;exact⟨rfl,rfl,vS h.1,vS h.2⟩
  ·trivial
def keepR:Res->Res
 | .lG _=>.none
 | .mat e e2 t (some l) xss v=>if l.Nodup then .mat e e2 t none (l.map fun i=>xss.getD i []) 0 else .mat e e2 t (some l) xss 0
 | x=>b3n x
theorem b2d {R R':Rho} (x:Res):leR R R' x (keepR x):=by
 cases x with
 | none=>trivial
 | gone=>trivial
 | lG k=>trivial
 | box ps =>
  show leP ps ps
  induction ps with
  | nil=>trivial
  | cons p ps ih=>exact⟨oJ _ _,ih⟩
 | row e t xs v=>exact⟨rfl,rfl,oJ _ _⟩
 | fro t xs v=>exact⟨rfl,oJ _ _⟩
 | mat e e2 t ids xss v =>
  cases ids
  ·exact⟨rfl,rfl,rfl,rfl,oJ _ _⟩
  ·rename_i l;show leR R R' _ (if _ then _ else _);split
   ·rename_i h;exact⟨rfl,rfl,rfl,h,oJ _ _⟩
   ·exact⟨rfl,rfl,rfl,rfl,oJ _ _⟩
def LQ (R:Rho):List Nat->Rho
 | []=>[]
 | r::k=>(r,keepR (aU R r))::LQ R k
theorem YM (R:Rho) (r:Nat):∀ k,aU (LQ R k) r=keepR (aU R r)\/aU (LQ R k) r=.none
 | []=>.inr rfl
 | q::k=>by
  simp only[LQ,aU];split
  ·rename_i e;subst e;exact .inl rfl
  ·exact YM R r k
def a0i (G:Gam) (R R':Rho):List Nat->Gam
 | []=>[]
 | s::k=>(s,b2b R R' (bF G s))::a0i G R R' k
theorem YL (G:Gam) (R R':Rho) (s:Nat):∀ k,bF (a0i G R R' k) s=b2b R R' (bF G s)\/bF (a0i G R R' k) s=.any
 | []=>.inr rfl
 | q::k=>by
  simp only[a0i,bF];split
  ·rename_i e;subst e;exact .inl rfl
  ·exact YL G R R' s k
def b4m (G:Gam) (k:List Nat):List Nat:=k.flatMap fun s=>(bF G s).res
section
variable {B:Book} {W:World} {base:Fix}
theorem b7A {G:Gam} {R:Rho} {a:Act} {w:World} {k zs:List Nat} (h:St B W base G R a w):St B W base (a0i G R (LQ R zs) k) (LQ R zs) a w :=
 b8y h (fun s=>.inl (by
  rcases YL G R (LQ R zs) s k with e|e<;>rw[e]
  ·exact b2c _
  ·cases bF G s<;>trivial)) fun r=>by
  rcases YM R r zs with e|e<;>rw[e]
  ·exact b2d _
  ·cases aU R r<;>trivial
abbrev XS:Type:=Exit × Gam × Rho
def evL (F:Gam->Rho->Option XS) (k:List Nat):Nat->Gam->Rho->Option XS
 | 0,_,_=>none
 | n+1,G,R=>match F G R with
  | some (.normal,G',R')=>evL F k n (a0i G' R' (LQ R' (b4m G' k)) k) (LQ R' (b4m G' k))
  | x=>x
def a0x (l:List Cd):Bool:=match a1W l with
 | .isTrue _=>true
 | .isFalse _=>false
theorem a0y {l:List Cd} (h:a0x l=true):dH l:=by
 unfold a0x at h;split at h
 ·assumption
 ·cases h
def b1f (G:Gam) (R:Rho) (s:Nat):Gam × Rho:=match tH (aU R) (bF G s) with
 | some (p,l)=>((s,.val p.t p.x)::G,aft R l)
 | none=>(G,R)
def b1g (G:Gam) (R:Rho):List Nat->Gam × Rho
 | []=>(G,R)
 | s::l=>b1g (b1f G R s).1 (b1f G R s).2 l
theorem b5v {G:Gam} {R:Rho} {s:Nat} {a:Act} {w:World} (h:St B W base G R a w):St B W base (b1f G R s).1 (b1f G R s).2 a w:=by
 unfold b1f;split
 ·rename_i p l hp;obtain⟨E,h0,h1,h2⟩:=h;have hp2:wR (aU R) none (bF G s)=some (p,l):=by cases hk:bF G s<;>rw[hk] at hp<;>first|exact hp|cases hp
  obtain⟨E',m1,m2,m3⟩:=oC hp2 h1 (h2.wf s) (h2.holds s);refine⟨E',m2.fix.trans h0,by rw[pY];exact m1,h2.size,h2.defers,fun q=>?_,fun q=>?_,fun q hq=>by rw[m2.par];exact h2.par q hq⟩
  ·simp only[bF,pY];split
   ·trivial
   ·exact m2.wf _ (h2.wf q)
  ·simp only[bF,pY];split
   ·rename_i e;subst e;exact m3
   ·exact m2.holds _ _ (h2.wf q) (h2.holds q)
 ·exact h
theorem a6n {a:Act} {w:World}:∀ {l:List Nat} {G:Gam} {R:Rho},St B W base G R a w->St B W base (b1g G R l).1 (b1g G R l).2 a w
 | [],_,_,h=>h
 | s::l,_,_,h=>a6n (l:=l) (b5v (s:=s) h)
def b8I (ops:Array Oper):List Nat:=ops.toList.flatMap fun o=>tmpsOf o.op
inductive Kp where
 | mk (k:List Nat) (sub:List Kp)
def ev (B:Book) (N:Nat):Code->List Kp->Gam->Rho->Option XS
 | .skip,_,G,R=>some (.normal,G,R)
 | .label _,_,G,R=>some (.normal,G,R)
 | .exit i,_,G,R=>some (.exit i,G,R)
 | .ret,_,G,R=>some (.ret,G,R)
 | .region _ ops draw,_,G,R=>match jJ B ops draw G R with
  | some (vc,G',R')=>if a0x vc then some (.normal,G',R') else none
  | none=>match jJ B ops draw (b1g G R (b8I ops)).1 (b1g G R (b8I ops)).2 with
   | some (vc,G',R')=>if a0x vc then some (.normal,G',R') else none
   | none=>none
 | .seq a b,A,G,R=>match ev B N a (A.take (nl a)) G R with
  | some (.normal,G',R')=>ev B N b (A.drop (nl a)) G' R'
  | x=>x
 | .cond c t e,A,G,R=>match opK (bF G) c with
  | .val .bool b=>match (b:Bool) with
   | true=>ev B N t (A.take (nl t)) G R
   | false=>ev B N e (A.drop (nl t)) G R
  | _=>none
 | .block i c,A,G,R=>match ev B N c A G R with
  | some (.exit j,G',R')=>if j=i then some (.normal,G',R') else some (.exit j,G',R')
  | x=>x
 | .loop c,A,G,R=>match A with
  | .mk k sub::_=>evL (ev B N c sub) k N G R
  | []=>none
 | _,_,_,_=>none
def PX (B:Book) (W:World) (base:Fix) (x:XS) (e:Exit) (a:Act) (w:World):Prop:=e=x.1/\St B W base x.2.1 x.2.2 a w
theorem b0Y (hB:B.Ok) (hm:B.P.follows .mixedOrders=true) {N:Nat}:∀ (c:Code) {A:List Kp} {G:Gam} {R:Rho} {x:XS} {a:Act} {w:World},ev B N c A G R=some x->St B W base G R a w->c.wp B.P (PX B W base x) a w:=by
 intro c
 induction c with
 | skip=>intro A G R x a w h hs;cases h;exact wp_skip ⟨rfl,hs⟩
 | label l=>intro A G R x a w h hs;cases h;exact wp_label ⟨rfl,hs⟩
 | exit i=>intro A G R x a w h hs;cases h;exact wp_exit ⟨rfl,hs⟩
 | ret=>intro A G R x a w h hs;cases h;exact wp_ret ⟨rfl,hs⟩
 | region id ops draw =>
  intro A G R x a w h hs;simp only[ev] at h;have key:∀ {G R vc G' R'},jJ B ops draw G R=some (vc,G',R')->(if a0x vc then some (Exit.normal,G',R') else none)=some x->St B W base G R a w->(Code.region id ops draw).wp B.P (PX B W base x) a w:=fun {G R vc G' R'} hr h hs=>by
   split at h<;>try(cases h;done)
   rename_i hv;cases h;refine Cj (KZ (id:=id) hB hm (Q:=fun e G2 R2=>e=.normal/\G2=G'/\R2=R') hr (a0y hv) ⟨rfl,rfl,rfl⟩ hs) (fun e a' w' hp=>?_);obtain⟨G2,R2,⟨rfl,rfl,rfl⟩,k2⟩:=hp;exact⟨rfl,k2⟩
  split at h
  ·rename_i hr;exact key hr h hs
  ·split at h<;>try(cases h;done)
   rename_i hr;exact key hr h (a6n hs)
 | seq p q ihp ihq =>
  intro A G R x a w h hs;simp only[ev] at h;split at h
  ·rename_i G' R' h1;refine wp_seq (Cj (ihp h1 hs) (fun e a' w' hp=>?_));obtain⟨rfl,k2⟩:=hp;exact ihq h k2
  ·rename_i hn;refine wp_seq (Cj (ihp h hs) (fun e a' w' hp=>?_));obtain⟨rfl,k2⟩:=hp;obtain⟨e,G',R'⟩:=x;cases e with
   | normal=>exact absurd h (hn _ _)
   | _=>exact⟨rfl,k2⟩
 | cond c t e iht ihe =>
  intro A G R x a w h hs;simp only[ev] at h;split at h<;>try(cases h;done)
  rename_i b hk;have hs2:=hs;obtain⟨E,h0,h1,h2⟩:=hs2;have hv:=(KQ h2).2 c;rw[hk] at hv;refine wp_cond_split (qJ hv) (fun hb=>?_) (fun hb=>?_)
  ·subst hb;exact iht h hs
  ·subst hb;exact ihe h hs
 | block id c ih =>
  intro A G R x a w h hs;simp only[ev] at h;refine wp_block ?_;split at h
  ·rename_i j G' R' h1;refine Cj (ih h1 hs) (fun e a' w' hp=>?_);obtain⟨rfl,k2⟩:=hp;simp only[Exit.inBlock];split at h
   ·rename_i e;cases h;rw[dn e];exact⟨rfl,k2⟩
   ·rename_i e;cases h;rw[bn e];exact⟨rfl,k2⟩
  ·rename_i hn;refine Cj (ih h hs) (fun e a' w' hp=>?_);obtain⟨rfl,k2⟩:=hp;obtain⟨e,G',R'⟩:=x;cases e with
   | exit j=>exact absurd h (hn _ _ _)
   | _=>exact⟨rfl,k2⟩
 | loop c ih =>
  intro A G R x a w h hs;simp only[ev] at h;split at h<;>try(cases h;done)
  rename_i k sub rest;refine wp_loop_rounds N ?_;have key:∀ n G R a w,evL (ev B N c sub) k n G R=some x->St B W base G R a w->Code.rounds B.P c (PX B W base x) n a w:=by
   intro n
   induction n with
   | zero=>intro G R a w h _;cases h
   | succ n ihn =>
    intro G R a w h hs;rw[rounds_succ];simp only[evL] at h;split at h
    ·rename_i G' R' h1;refine Cj (ih h1 hs) (fun e a' w' hp=>?_);obtain⟨rfl,k2⟩:=hp;exact ihn _ _ _ _ h (b7A k2)
    ·rename_i hn;refine Cj (ih h hs) (fun e a' w' hp=>?_);obtain⟨rfl,k2⟩:=hp;obtain⟨e,G',R'⟩:=x;cases e with
     | normal=>exact absurd h (hn _ _)
     | _=>exact⟨rfl,k2⟩
  exact key N G R a w h hs
 | scope c ih=>intro A G R x a w h hs;cases h
 | goto l=>intro A G R x a w h hs;cases h
 | rangeFunc f ps x y _ _=>intro A G R x a w h hs;cases h
 | refuse s=>intro A G R x a w h hs;cases h
def a2u (B:Book) (G:Nat->K):(Nat->Res)->(ts:List Ty)->List ResultVar->Option (List Cd × (nest ts).den)
 | _,[],[]=>some ([],())
 | ρ,t::ts,r::rs=>match NS B G ρ t r with
  | some (p,l)=>match kN p.t t,a2u B G (after ρ l) ts rs with
   | some q,some (vc,y)=>some (q.c p.x++vc,(q.f p.x,y))
   | _,_=>none
  | none=>none
 | _,_,_=>none
theorem a2v {G:Nat->K}:∀ {ts:List Ty} {rs:List ResultVar} {ρ:Nat->Res} {vc:List Cd} {y:(nest ts).den},a2u B G ρ ts rs=some (vc,y)->dH vc->WZ B G ρ ts rs y
 | [],[],_,_,_,_,_=>trivial
 | t::ts,r::rs,ρ,vc,y,h,hv=>by
  simp only[a2u] at h;split at h<;>try(cases h;done)
  rename_i p l h1;split at h<;>try(cases h;done)
  rename_i q vc2 y2 h2 h3;cases h;obtain⟨v1,v2⟩:=dI.1 hv;simp only[WZ,h1,h2];exact⟨v1,trivial,a2v h3 v2⟩
 | [],_::_,_,_,_,h,_=>by cases h
 | _::_,[],_,_,_,h,_=>by cases h
def c0A (B:Book) (ts:List Ty) (rs:List ResultVar):Option XS->Option (nest ts).den
 | some (.normal,G,R)=>match a2u B (bF G) (aU R) ts rs with
  | some (vc,y)=>if a0x vc then some y else none
  | none=>none
 | some (.ret,G,R)=>match a2u B (bF G) (aU R) ts rs with
  | some (vc,y)=>if a0x vc then some y else none
  | none=>none
 | _=>none
theorem b6F {ts:List Ty} {rs:List ResultVar} {x:Option XS} {y:(nest ts).den} (h:c0A B ts rs x=some y):∃ z,x=some z/\a9e B ts rs y z.1 z.2.1 z.2.2:=by
 unfold c0A at h;split at h<;>try(cases h;done)
 all_goals
  split at h<;>try(cases h;done)
  rename_i vc y2 h2;split at h<;>try(cases h;done)
  rename_i hv;cases h;exact⟨_,rfl,a2v h2 (a0y hv)⟩
def b8z:(k:LK)->Nat->Res->Option k.ty.den
 | .row e t,v,.row e' t' xs v'=>if e'==e&&gv v'==gv v then gK (.list t') (.list t) xs else none
 | .mat e e2 t,v,.mat e' e2' t' none xss v'=>if e'==e&&e2'==e2&&gv v'==gv v then gK (.list (.list t')) (.list (.list t)) xss else none
 | _,_,_=>none
theorem b2m {k:LK} {v:Nat} {x:Res} {y:k.ty.den} (h:b8z k v x=some y):lkP k y v x:=by
 cases k<;>cases x<;>try(cases h;done)
 ·rename_i e t e' t' xs v';have h:(if (e'==e&&gv v'==gv v)=true then gK (.list t') (.list t) xs else none)=some y:=h;by_cases hb:(e'==e&&gv v'==gv v)=true
  ·rw[dn hb] at h;simp only[lkP,h,hb,Du]
  ·rw[bn hb] at h;cases h
 ·rename_i e e2 t e' e2' t' ids xss v';cases ids<;>try(cases h;done)
  have h:(if (e'==e&&e2'==e2&&gv v'==gv v)=true then gK (.list (.list t')) (.list (.list t)) xss else none)=some y:=h;by_cases hb:(e'==e&&e2'==e2&&gv v'==gv v)=true
  ·rw[dn hb] at h;simp only[lkP,h,hb,Du]
  ·rw[bn hb] at h;cases h
def lkK (k:LK) (ρ:Nat->Res) (only:Option Nat):K->Option k.ty.den
 | .own r v=>if only.all (fun q=>q==r) then b8z k v (ρ r) else none
 | _=>none
theorem b2n {k:LK} {ρ:Nat->Res} {o:Option Nat} {x:K} {y:k.ty.den} (h:lkK k ρ o x=some y):lkG k y ρ o x:=by
 cases x<;>try(cases h;done)
 simp only[lkK] at h;split at h<;>try(cases h;done)
 rename_i ho;simp only[lkG,ho,Du];exact b2m h
def b2L (k:LK) (G:Gam) (R:Rho):List ResultVar->Option k.ty.den
 | [.tmp s]=>lkK k (aU R) none (bF G s)
 | _=>none
theorem b2M {k:LK} {G:Gam} {R:Rho} {y:k.ty.den}:∀ {rs:List ResultVar},b2L k G R rs=some y->mkP k y (bF G) (aU R) rs
 | [.tmp s],h=>b2n h
 | [],h=>by cases h
 | [.cell _ _],h=>by cases h
 | a::_::_,h=>by cases a<;>cases h
def c0y (k:LK) (rs:List ResultVar):Option XS->Option k.ty.den
 | some (.normal,G,R)=>b2L k G R rs
 | some (.ret,G,R)=>b2L k G R rs
 | _=>none
theorem b6D {k:LK} {rs:List ResultVar} {x:Option XS} {y:k.ty.den} (h:c0y k rs x=some y):∃ z,x=some z/\b7c k y rs z.1 z.2.1 z.2.2:=by unfold c0y at h;split at h<;>first|(cases h;done)|exact⟨_,rfl,b2M h⟩
def MI (B:Book) (k:LK) (G:Nat->K):(Nat->Res)->(ts:List Ty)->List ResultVar->Option (List Cd × k.ty.den × (nest ts).den)
 | ρ,[],[]=>(lkK k ρ (some 0) (G 0)).map fun o=>([],o,())
 | ρ,t::ts,r::rs=>match NS B G ρ t r with
  | some (p,l)=>match kN p.t t,MI B k G (after ρ l) ts rs with
   | some q,some (vc,o,y)=>some (q.c p.x++vc,o,(q.f p.x,y))
   | _,_=>none
  | none=>none
 | _,_,_=>none
theorem YA {k:LK} {G:Nat->K} {o:k.ty.den}:∀ {ts:List Ty} {rs:List ResultVar} {ρ:Nat->Res} {vc:List Cd} {y:(nest ts).den},MI B k G ρ ts rs=some (vc,o,y)->dH vc->WY B k o G ρ ts rs y
 | [],[],ρ,vc,y,h,_=>by simp only[MI,ig,ak] at h;obtain⟨o',h1,_,rfl,_⟩:=h;exact b2n h1
 | t::ts,r::rs,ρ,vc,y,h,hv=>by
  simp only[MI] at h;split at h<;>try(cases h;done)
  rename_i p l h1;split at h<;>try(cases h;done)
  rename_i q vc2 o2 y2 h2 h3;cases h;obtain⟨v1,v2⟩:=dI.1 hv;simp only[WY,h1,h2];exact⟨v1,trivial,YA h3 v2⟩
 | [],_::_,_,_,_,h,_=>by cases h
 | _::_,[],_,_,_,h,_=>by cases h
def c0z (B:Book) (k:LK) (ts:List Ty) (rs:List ResultVar):Option XS->Option (k.ty.den × (nest ts).den)
 | some (.normal,G,R)=>match MI B k (bF G) (aU R) ts rs with
  | some (vc,y)=>if a0x vc then some y else none
  | none=>none
 | some (.ret,G,R)=>match MI B k (bF G) (aU R) ts rs with
  | some (vc,y)=>if a0x vc then some y else none
  | none=>none
 | _=>none
theorem b6E {k:LK} {ts:List Ty} {rs:List ResultVar} {x:Option XS} {y:k.ty.den × (nest ts).den} (h:c0z B k ts rs x=some y):∃ z,x=some z/\b7d B k y.1 ts rs y.2 z.1 z.2.1 z.2.2:=by
 unfold c0z at h;split at h<;>try(cases h;done)
 all_goals
  split at h<;>try(cases h;done)
  rename_i vc y2 h2;split at h<;>try(cases h;done)
  rename_i hv;cases h;exact⟨_,rfl,YA h2 (a0y hv)⟩
end
def a5e (B:Book) (code:Code) (fn:Func) (k:List Kp) (ts rs:List Ty) (x:(nest ts).den):Option (nest rs).den:=c0A B rs fn.results.toList (ev B 10000 code k (sQ 0 ts x) [])
def b9o (B:Book) (code:Code) (fn:Func) (k:List Kp) (ts rs:List Ty):Ctr:=⟨ts,rs,fun x=>(a5e B code fn k ts rs x).isSome=true,fun x=>(a5e B code fn k ts rs x).getD (nest rs).zero⟩
theorem a5W {B:Book} (hB:B.Ok) (hm:B.P.follows .mixedOrders=true) {f:FuncId} {fn:Func} {code:Code} {k:List Kp} {ts rs:List Ty} (hf:B.P.funcs[f]?=some fn) (hb:fn.body=some code) (hN:fn.ntmps=B.N) (hkeep:B.keep=fun _=>false) (hargs:ts.length<=fn.ntmps):aJ B.P f (b9o B code fn k ts rs) :=
 a5X hf hb hN hkeep hargs fun x hp W base a w hs=>by have hp:(a5e B code fn k ts rs x).isSome=true:=hp;obtain⟨y,hy⟩:=Cc.1 hp;obtain⟨z,h1,h2⟩:=b6F hy;refine Cj (b0Y hB hm code h1 hs) fun e a' w' hq=>?_;obtain⟨rfl,k⟩:=hq;refine⟨z.2.1,z.2.2,?_,k⟩;show a9e B rs fn.results.toList ((a5e B code fn _ ts rs x).getD (nest rs).zero) _ _ _;rw[hy];exact h2
def runM (B:Book) (code:Code) (fn:Func) (ks:List Kp) (k:LK) (ts:List Ty) (x:(nest ts).den):Option k.ty.den:=c0y k fn.results.toList (ev B 10000 code ks (sQ 0 ts x) [])
def c5C (B:Book) (code:Code) (fn:Func) (ks:List Kp) (k:LK) (ts:List Ty):lK:=.mk k ts (fun x=>(runM B code fn ks k ts x).isSome=true) (fun x=>(runM B code fn ks k ts x).getD k.ty.zero)
theorem b4Y {B:Book} (hB:B.Ok) (hm:B.P.follows .mixedOrders=true) {f:FuncId} {fn:Func} {code:Code} {ks:List Kp} {k:LK} {ts:List Ty} (hf:B.P.funcs[f]?=some fn) (hb:fn.body=some code) (hN:fn.ntmps=B.N) (hkeep:B.keep=fun _=>false) (hargs:ts.length<=fn.ntmps):NOk B.P f (c5C B code fn ks k ts) :=
 a6P hf hb hN hkeep hargs fun x hp W base a w hs=>by obtain⟨y,hy⟩:=Cc.1 hp;obtain⟨z,h1,h2⟩:=b6D hy;refine Cj (b0Y hB hm code h1 hs) fun e a' w' hq=>?_;obtain⟨rfl,j⟩:=hq;refine⟨z.2.1,z.2.2,?_,j⟩;rw[hy];exact h2
def runN (B:Book) (code:Code) (fn:Func) (ks:List Kp) (k:LK) (ts rs:List Ty) (x:k.ty.den) (y:(nest ts).den):Option (k.ty.den × (nest rs).den):=c0z B k rs fn.results.toList (ev B 10000 code ks ((0,.own 0 0)::sQ 1 ts y) [(0,k.res x 0)])
def c5E (B:Book) (code:Code) (fn:Func) (ks:List Kp) (k:LK) (ts rs:List Ty):lK:=.chg k ts rs (fun x y=>(runN B code fn ks k ts rs x y).isSome=true) (fun x y=>((runN B code fn ks k ts rs x y).getD (x,(nest rs).zero)).1) (fun x y=>((runN B code fn ks k ts rs x y).getD (x,(nest rs).zero)).2)
theorem b4Z {B:Book} (hB:B.Ok) (hm:B.P.follows .mixedOrders=true) {f:FuncId} {fn:Func} {code:Code} {ks:List Kp} {k:LK} {ts rs:List Ty} (hf:B.P.funcs[f]?=some fn) (hb:fn.body=some code) (hN:fn.ntmps=B.N) (hkeep:B.keep=fun s=>s==0) (hargs:ts.length+1<=fn.ntmps):NOk B.P f (c5E B code fn ks k ts rs) :=
 a3j hf hb hN hkeep hargs fun x y hp W base a w hs=>by obtain⟨r,hy⟩:=Cc.1 hp;obtain⟨z,h1,h2⟩:=b6E hy;refine Cj (b0Y hB hm code h1 hs) fun e a' w' hq=>?_;obtain⟨rfl,j⟩:=hq;refine⟨z.2.1,z.2.2,?_,j⟩;rw[hy];exact h2
structure Sx where
 kb:List Nat:=[]
 mt:List (Nat × Ty):=[]
 k:List Kp:=[]
 caps:List TypeId:=[]
 new:Option LK:=none
 chg:Option LK:=none
def allocs:Code->List Nat
 | .region _ ops _=>ops.toList.filterMap fun o=>match o.op with
  | .alloc _=>o.dst
  | _=>none
 | .seq a b=>allocs a++allocs b
 | .cond _ a b=>allocs a++allocs b
 | .block _ c=>allocs c
 | .loop c=>allocs c
 | _=>[]
noncomputable def tyX (t:TypeId):Option Ty:=match Tryz.prog.underlying t with
 | some (.pointer e)=>(a1L (.lf .rat) 8 e).map .ref
 | _=>a1L (.lf .rat) 8 t
def a9M (caps:FuncId->List Ty):Option Ty->At->Option Ty
 | some t,_=>some t
 | none,.ty t=>some t
 | none,.fn g=>some (.clo g (nest (caps g)))
 | none,.no=>none
noncomputable def a8c (caps:FuncId->List Ty):List TypeId->List Ty->List At->Option (List Ty)
 | _,_,[]=>some []
 | p::ps,cs,a::ats=>match a9M caps (tyX p) a,a8c caps ps cs ats with
  | some t,some ts=>some (t::ts)
  | _,_=>none
 | [],c::cs,a::ats=>match a9M caps (some c) a,a8c caps [] cs ats with
  | some t,some ts=>some (t::ts)
  | _,_=>none
 | [],[],a::ats=>match a9M caps none a,a8c caps [] [] ats with
  | some t,some ts=>some (t::ts)
  | _,_=>none
noncomputable def resT:List TypeId->Option (List Ty)
 | []=>some []
 | t::ts=>match a1L (.lf .rat) 8 t,resT ts with
  | some u,some us=>some (u::us)
  | _,_=>none
abbrev CsX:Type:=FuncId->List At->List Ctr
abbrev NsX:Type:=FuncId->List At->List lK
noncomputable def OJ (C:CsX) (D:NsX) (N:Nat) (h:Hint) (kp:Nat->Bool):Book:=⟨Tryz.prog,C,told h D,N,kp⟩
noncomputable def Sx.cps (s:Sx):List Ty:=s.caps.map fun t=>.ref ((a1L (.lf .rat) 8 t).getD .unit)
def Sx.hint (s:Sx) (code:Code):Hint:=⟨allocs code,s.kb,s.mt⟩
section
variable (C:CsX) (D:NsX) (sg:FuncId->Sx) (g:FuncId) (fn:Func) (code:Code) (ats:List At)
noncomputable def xC:List Ctr:=match a8c (fun g=>(sg g).cps) fn.params.toList (sg g).cps ats,resT fn.resultTypes.toList with
 | some ts,some rs=>if ts.length<=fn.ntmps then [b9o (OJ C D fn.ntmps ((sg g).hint code) fun _=>false) code fn (sg g).k ts rs] else []
 | _,_=>[]
noncomputable def xM:List lK:=match (sg g).new,a8c (fun g=>(sg g).cps) fn.params.toList (sg g).cps ats with
 | some k,some ts=>if ts.length<=fn.ntmps then [c5C (OJ C D fn.ntmps ((sg g).hint code) fun _=>false) code fn (sg g).k k ts] else []
 | _,_=>[]
noncomputable def xN:List lK:=match (sg g).chg,a8c (fun g=>(sg g).cps) fn.params.toList.tail (sg g).cps ats.tail,resT fn.resultTypes.toList with
 | some k,some ts,some rs=>if ts.length+1<=fn.ntmps then [c5E (OJ C D fn.ntmps ((sg g).hint code) fun s=>s==0) code fn (sg g).k k ts rs] else []
 | _,_,_=>[]
end
noncomputable def a7S {α:Type} (g:FuncId) (F:Func->Code->List α):List α:=match Tryz.prog.funcs[g]? with
 | none=>[]
 | some fn=>match fn.body with
  | none=>[]
  | some code=>F fn code
theorem a0m {α:Type} {g:FuncId} {F:Func->Code->List α} {c:α} (h:c ∈ a7S g F):∃ fn code,Tryz.prog.funcs[g]?=some fn/\fn.body=some code/\c ∈ F fn code:=by
 unfold a7S at h;split at h<;>try(cases h;done)
 rename_i fn hf;split at h<;>try(cases h;done)
 rename_i code hb;exact⟨fn,code,hf,hb,h⟩
noncomputable def exB (L:Lib) (sg:FuncId->Sx):Nat->CsX × NsX
 | 0=>(fun g _=>zK L.l g,fun g _=>zK L.n g)
 | n+1=>(fun g ats=>zK L.l g++a7S g fun fn code=>xC (exB L sg n).1 (exB L sg n).2 sg g fn code ats,
  fun g ats=>zK L.n g++a7S g fun fn code=>xM (exB L sg n).1 (exB L sg n).2 sg g fn code ats++xN (exB L sg n).1 (exB L sg n).2 sg g fn code ats)
theorem b1a (L:Lib) (sg:FuncId->Sx):∀ n,(∀ g ats,∀ c ∈ (exB L sg n).1 g ats,aJ Tryz.prog g c)/\∀ g ats,∀ c ∈ (exB L sg n).2 g ats,NOk Tryz.prog g c
 | 0=>⟨fun g _ c h=>L.ok (g,c) (kZ h),fun g _ c h=>L.okn (g,c) (kZ h)⟩
 | n+1=>by
  obtain⟨h1,h2⟩:=b1a L sg n;refine⟨fun g ats c h=>?_,fun g ats c h=>?_⟩
  ·rcases tu.1 h with h|h
   ·exact L.ok (g,c) (kZ h)
   ·obtain⟨fn,code,hf,hb,h⟩:=a0m h;unfold xC at h;split at h<;>try(cases h;done)
    split at h<;>try(cases h;done)
    rename_i hl;rw[mg.1 h];exact a5W (B:=OJ _ _ _ _ _) ⟨h1,h2⟩ mixed hf hb rfl rfl hl
  ·rcases tu.1 h with h|h
   ·exact L.okn (g,c) (kZ h)
   ·obtain⟨fn,code,hf,hb,h⟩:=a0m h;rcases tu.1 h with h|h
    ·unfold xM at h;split at h<;>try(cases h;done)
     split at h<;>try(cases h;done)
     rename_i hl;rw[mg.1 h];exact b4Y (B:=OJ _ _ _ _ _) ⟨h1,h2⟩ mixed hf hb rfl rfl hl
    ·unfold xN at h;split at h<;>try(cases h;done)
     split at h<;>try(cases h;done)
     rename_i hl;rw[mg.1 h];exact b4Z (B:=OJ _ _ _ _ _) ⟨h1,h2⟩ mixed hf hb rfl rfl hl
noncomputable def a8t (L:Lib) (sg:FuncId->Sx) (n:Nat) (g:FuncId) (ts rs:List Ty) (x:(nest ts).den):Option (nest rs).den:=match Tryz.prog.funcs[g]? with
 | none=>none
 | some fn=>match fn.body with
  | none=>none
  | some code=>if ts.length<=fn.ntmps then a5e (OJ (exB L sg n).1 (exB L sg n).2 fn.ntmps ((sg g).hint code) fun _=>false) code fn (sg g).k ts rs x else none
theorem a6h {L:Lib} {sg:FuncId->Sx} {n:Nat} {g:FuncId} {ts rs:List Ty} {pre:(nest ts).den->Prop} {f:(nest ts).den->(nest rs).den} (h:∀ x,pre x->a8t L sg n g ts rs x=some (f x)):aJ Tryz.prog g ⟨ts,rs,pre,f⟩:=by
 intro F w vs x a b hp;have h1:=h x hp;unfold a8t at h1;split at h1<;>first|(cases h1;done)|skip
 rename_i fn hf;split at h1<;>first|(cases h1;done)|skip
 rename_i code hb;split at h1<;>first|(cases h1;done)|skip
 rename_i hl;have t:=a5W (B:=OJ (exB L sg n).1 (exB L sg n).2 fn.ntmps ((sg g).hint code) fun _=>false) (b1a L sg n) mixed hf hb rfl rfl hl (k:=(sg g).k) (rs:=rs) F w vs x a b (by show (a5e _ _ _ _ _ _ x).isSome=true;rw[h1];rfl);rw[show (b9o _ code fn (sg g).k ts rs).fn x=f x by show (a5e _ _ _ _ _ _ x).getD _=_;rw[h1];rfl] at t;exact t
end
set_option linter.unusedSimpArgs false
set_option linter.unusedVariables false
deriving instance DecidableEq for iJ
deriving instance DecidableEq for aI
def Lf.deq:(l:Lf)->DecidableEq l.den
 | .rat=>inferInstanceAs (DecidableEq Rat)
 | .big=>inferInstanceAs (DecidableEq Int)
 | .fO=>inferInstanceAs (DecidableEq aI)
 | .IG=>inferInstanceAs (DecidableEq iJ)
 | .str=>inferInstanceAs (DecidableEq ByteArray)
 | .grp=>inferInstanceAs (DecidableEq (List Nat))
 | .gsl=>inferInstanceAs (DecidableEq (List Nat))
 | .QA=>inferInstanceAs (DecidableEq Nat)
 | .esl=>inferInstanceAs (DecidableEq Unit)
def Ty.deq:(t:Ty)->DecidableEq t.den
 | .bool=>inferInstanceAs (DecidableEq Bool)
 | .int _=>inferInstanceAs (DecidableEq Int)
 | .lf l=>l.deq
 | .list t=>letI:DecidableEq t.den:=t.deq
  inferInstanceAs (DecidableEq (List t.den))
 | .arr _ t=>letI:DecidableEq t.den:=t.deq
  inferInstanceAs (DecidableEq (List t.den))
 | .pair a b=>letI:DecidableEq a.den:=a.deq
  letI:DecidableEq b.den:=b.deq
  inferInstanceAs (DecidableEq (a.den × b.den))
 | .unit=>inferInstanceAs (DecidableEq Unit)
 | .ref t=>t.deq
 | .clo _ t=>t.deq
 | .nls t=>letI:DecidableEq t.den:=t.deq
  inferInstanceAs (DecidableEq (Option (List t.den)))
def UK {ts rs:List Ty} (x:(nest ts).den):List ((nest ts).den × (nest rs).den)->Option (nest rs).den
 | []=>none
 | p::l=>match (nest ts).deq x p.1 with
  | .isTrue _=>some p.2
  | .isFalse _=>UK x l
def a4i (ts rs:List Ty) (l:List ((nest ts).den × (nest rs).den)):Ctr:=⟨ts,rs,fun x=>(UK x l).isSome=true,fun x=>(UK x l).getD (nest rs).zero⟩
theorem YW {ts rs:List Ty} {x:(nest ts).den} {y:(nest rs).den}:∀ {l:List ((nest ts).den × (nest rs).den)},UK x l=some y->(x,y) ∈ l
 | [],h=>by cases h
 | p::l,h=>by
  simp only[UK] at h;split at h
  ·rename_i e _;cases h;rw[e];exact je ..
  ·exact jd _ (YW h)
theorem a0O {P:Program} {f:FuncId} {args res:List Ty} {pre:(nest args).den->Prop} {fn:(nest args).den->(nest res).den} {d d':∀ x,Dc (pre x)} (h:aJ P f (@Ctr.mk args res pre fn d)):aJ P f (@Ctr.mk args res pre fn d'):=fun F w vs x a b c=>h F w vs x a b c
theorem b0Z {L:Lib} {sg:FuncId->Sx} {n:Nat} {g:FuncId} {ts rs:List Ty} {l:List ((nest ts).den × (nest rs).den)} (h:∀ p ∈ l,a8t L sg n g ts rs p.1=some p.2) (x:(nest ts).den) (hx:(UK x l).isSome=true):a8t L sg n g ts rs x=some ((UK x l).getD (nest rs).zero):=by obtain⟨y,hy⟩:=Cc.1 hx;have h2:=h (x,y) (YW hy);generalize a8t L sg n g ts rs x=e at h2 ⊢;rw[hy];exact h2
theorem DX {L:Lib} {sg:FuncId->Sx} {n:Nat} {g:FuncId} {ts rs:List Ty} {l:List ((nest ts).den × (nest rs).den)} (h:∀ p ∈ l,a8t L sg n g ts rs p.1=some p.2):aJ Tryz.prog g (a4i ts rs l):=by exact a0O (a6h (b0Z h))
def b8A:List (Nat × Sx)->FuncId->Sx
 | [],_=>{}
 | (f,s)::l,g=>if g=f then s else b8A l g
set_option maxRecDepth 100000
set_option maxHeartbeats 4000000
def a4x:Nat->Nat->Nat->Nat
 | 0,_,r=>r
 | f+1,n,r=>if (r+n / r) / 2<r then a4x f n ((r+n / r) / 2) else r
def isq (n:Nat):Nat:=a4x n n n
theorem NK {n r s:Nat} (hr:1<=r) (hs:s*s<=n):s<=(r+n / r) / 2:=by
 have h1:n<(n / r+1)*r:=by rw[vw];exact Nat.lt_mul_div_succ n hr
 rw[Nat.le_div_iff_mul_le (by omega)];generalize n / r=q at *
 rcases Ad (r+q) (s*2) with h|h
 ·exfalso;have h2:r+q+1<=2*s:=by omega
  have h3:(r+q+1)*(r+q+1)<=(2*s)*(2*s):=uy h2 h2;have h4:4*((q+1)*r)<=(r+q+1)*(r+q+1):=by
   have:(4:Int)*((q+1)*r)<=(r+q+1)*(r+q+1):=by
    have h5:(0:Int)<=((r:Int)-(q+1))*((r:Int)-(q+1)):=by
     rcases Int.le_total 0 ((r:Int)-(q+1)) with h|h
     ·exact Int.mul_nonneg h h
     ·exact Int.mul_nonneg_of_nonpos_of_nonpos h h
    grind
   exact_mod_cast this
  grind
 ·exact h
theorem ZH {n r:Nat} (hr:1<=r):n<((r+n / r) / 2+1)*((r+n / r) / 2+1):=by
 rcases Ad n (((r+n / r) / 2+1)*((r+n / r) / 2+1)) with h|h
 ·exact h
 ·have:=NK hr h;omega
theorem UU {n r:Nat} (hr:1<=r) (h:¬ (r+n / r) / 2<r):r*r<=n:=by
 have h1:r<=n / r:=by omega
 exact(Nat.le_div_iff_mul_le hr).1 h1
theorem YT:∀ (f n r:Nat),1<=n->1<=r->r<=f->n<(r+1)*(r+1)->a4x f n r*a4x f n r<=n/\n<(a4x f n r+1)*(a4x f n r+1)
 | 0,n,r,_,h1,h2,_=>by omega
 | f+1,n,r,hn,h1,h2,h3=>by
  simp only[a4x];split
  ·rename_i h;exact YT f n _ hn (NK h1 (by omega)) (by omega) (ZH h1)
  ·rename_i h;exact⟨UU h1 h,h3⟩
theorem KC {n:Nat} (h:1<=n):isq n*isq n<=n/\n<(isq n+1)*(isq n+1):=YT n n n h h (aj n) (by
 have:n*1<=n*n:=xw n h;have:(n+1)*(n+1)=n*n+2*n+1:=by grind
 omega)
theorem b8O {a b n:Nat} (h1:a*a<=n) (h2:n<(b+1)*(b+1)):a<=b:=by
 rcases Ad b a with h|h
 ·have:=uy (show b+1<=a from h) (show b+1<=a from h);omega
 ·exact h
theorem b1N {n r:Nat} (h:1<=n) (h1:r*r<=n) (h2:n<(r+1)*(r+1)):r=isq n:=by obtain⟨h3,h4⟩:=KC h;have:=b8O h1 h4;have:=b8O h3 h2;omega
theorem a4Z (M:Nat):Canon (List.replicate M 0++[1]):=by
 refine⟨fun g hg=>?_,by simp⟩;rcases tu.1 hg with hg|hg
 ·rw[(Em.1 hg).2];exact gU
 ·rw[mg.1 hg,bV];decide
theorem a5a {x:Int} {G:List Nat} {L M:Nat} (h1:val G=x.natAbs) (h2:Canon G) (h3:G.length=L) (h4:((L:Int)+1) / 2=(M:Int)):Hid (x.natAbs<(val (List.replicate M 0++[1])+1)*(val (List.replicate M 0++[1])+1)):=by
 unfold Hid;have h5:=mG h2.1;rw[h1,h3] at h5;have h6:BB ^ L<=BB ^ (M+M):=vg gU (by omega);rw[En] at h6;rw[val_append,OD,Bo,dA,show val ([]:List Nat)=0 from rfl];generalize BB ^ M=B at *
 rw[show 0+B*(1+BB*0)=B by simp];have:B*B<=(B+1)*(B+1):=uy (by omega) (by omega);omega
theorem b3u (p:Option Addr) (n c:Nat) (x:Int) (w:World) (hv:Raw w (.agg #[.bool false,.slice p n c]) x) (h1:1<=x) (hl:isz x<=400000000) :
  Calls Tryz.prog 181 #[.agg #[.bool false,.slice p n c]] w (fun e w'=>∃ r,e=.returned (.tuple #[r,.int .i64 0])/\eY w' r (isq x.natAbs:Nat)/\Below w.heap.size w w'):=by
 obtain⟨i0,hi,hz0,hz1,hz2⟩:=Ag gX;have hlx:(dig x.natAbs).length<=400000000:=hl;clear hl;have QB:Below w.heap.size w w:=gy _ _
 go_enter Tryz.func181,Tryz.ntmps181
 go_wp2_with fail
 obtain⟨hA1,b0,c0⟩:=bx2 w rfl [.bool false,.slice p n c] 45 [.bool false,.slice none 0 0] 45;have d0:=(hv.below hA1)
 (with_reducible refine(yN _ (x) _ d0).mono ?_)
 rintro e w1 ⟨s1,rfl,hs1,hb1⟩;obtain⟨p1,c1,rfl,b9Q,c6e⟩:=hs1.form;have yS:=(b0.to hb1);have rD:=(c0.to hb1);have a0:=(Below.tr (Below.tr QB hA1) hb1);have ha0:=hs1;have hq0:=yS;have hq1:=rD;have hB0:=a0;have hc0:=hq0.cs2;have hL:0<(dig x.natAbs).length:=yc.2 (fun e=>by have:=bM x.natAbs;rw[e] at this;simp[val] at this;omega);have hD:=bf (dJ x.natAbs);have hN:=bf (bM x.natAbs);generalize hG:dig x.natAbs=G at *
 obtain⟨L,hLe⟩:∃ L,G.length=L:=⟨_,rfl⟩;rw[hLe] at hlx hL ha0 ⊢;have hne:((L:Int)==0)=false:=by simp;omega
 obtain⟨M,hM⟩:∃ M:Nat,((L:Int)+1) / 2=M:=⟨(L+1) / 2,by omega⟩;clear b0 c0 d0 yS rD a0 hs1 b9Q hA1 hb1 QB hv;have c9z:=hB0.size
 go_wp2_with (at_make;refine Eh _ rfl _ _ 43 rfl w.heap.size 148 i0 (.int .u32 0) 1 ji hi hz0 hz1 _ _ _ _ M rfl rfl (by omega) (by omega) (by rw[hz2];omega) (by unfold maxLen;omega) (by omega) ?_)
 intro w4 hq4 a0Z;rw[iR] at hq4;have hz4:w1.heap.size<=w4.heap.size:=a0Z.size;have hb4:w1.heap.size<w4.heap.size:=(hq4.lt _ rfl).2
 go_wp2_with (at_builtin;refine wpList_append_lies rfl _ _ 43 rfl w.heap.size 148 i0 (.int .u32 0) 1 4 ji hi hz0 hz1 hz2 rfl (by decide) _ _ _ rfl (hq4.alloc _) ⟨w4.heap.size,0,none⟩ 1 1 [.int .u32 (((1:Nat)):Int)] rfl rfl (cell_one_new _ _ _) (by simp[Value.oneCell']) (by omega) (by unfold maxLen;omega) (by omega) (by simp;omega) ?_)
 intro gu' cu' w3 hu3 a2M hgx hgl;have hB4:Below w.heap.size w w4:=hB0.grown a0Z (by omega) (fun k e=>by cases e);have hB3:Below w.heap.size w w3:=(hB4.alloc (by omega) _).grown a2M (by simp;omega) (fun k e=>by simp[Value.ownBlock] at e;omega);have hC4:Below w1.heap.size w1 w4:=(gy _ _).grown a0Z (by omega) (fun k e=>by cases e);have hC3:Below w1.heap.size w1 w3:=(hC4.alloc (by omega) _).grown a2M (by simp;omega) (fun k e=>by simp[Value.ownBlock] at e;omega);have ha3:=ha0.below hC3;have hq3:=hq1.to hC3;have hR3:Rd w3 (.slice (some ⟨gu',0,none⟩) (List.replicate M 0++[1]).length cu') (List.replicate M 0++[1]):=Rd.dN (by rw[dh,Bo,JB];exact hu3);have hcan:Canon (List.replicate M 0++[1]):=a4Z M;have hval:Hid (x.natAbs<(val (List.replicate M 0++[1])+1)*(val (List.replicate M 0++[1])+1)):=a5a hN.out hD.out hLe hM;have hlen:(List.replicate M 0++[1]).length<=400000000:=by simp;omega
 have hnn:List.replicate M 0++[1]≠[]:=by simp
 have hl0:=bf (show M+1=(List.replicate M 0++[1]).length by simp);generalize List.replicate M 0++[1]=l0 at *
 clear hu3 a2M hgx hgl a0Z hq4 hB4 hC4 hC3 hB0 hq0 hc0 hq1 hz4 hb4 hne hM
 go_wp2_with fail
 go_loopg [5,3,6,7,8,9,26,27,28,29,30,31,32,33,34,35,36,37,38,39,40,41,42,43,44,45] (val l0) (fun k r _ _ _ _ _ _ _ _ _ _ _ _ _ _ _ _ _ _ _ _ _ _ _ _ _ wr=>∃ (l:List Nat) (pr:Option Addr) (cr:Nat),r=.slice pr l.length cr/\Rd wr (.slice pr l.length cr) l/\Rd wr (.slice p1 L c1) G/\Canon l/\l≠[]/\l.length<=400000000/\Hid (x.natAbs<(val l+1)*(val l+1))/\Hid (k=val l)/\Bx wr (w.heap.size+1) [.bool false,.slice none 0 0]/\Below w.heap.size w wr)
 case atStart=>exact⟨l0,some ⟨gu',0,none⟩,cu',by rw[hl0.out],hR3,ha3,hcan,hnn,hlen,hval,rfl,hq3,hB3⟩
 case round =>
  obtain⟨l,pr,cr,rfl,hr,hg,ca,hnl,ll,hs,hk,hq,hB⟩:=hrel;have hzB:=hB.size;have hR1:0<val l:=ca.pos hnl;have HQ:Hid ((dig (val G / val l)).length<=400000000):=by unfold Hid;have:=aX (Nat.div_le_self (val G) (val l));rw[dP hD.out,hLe] at this;omega
  have HS:Hid ((dig (val l+val G / val l)).length<=2000000000):=by
   unfold Hid;have h3:=yP ((val l:Nat):Int) ((val G / val l:Nat):Int);have h4:isz ((val l:Nat):Int)=l.length:=by show (dig (val l)).length=_;rw[dP ca]
   have h5:isz ((val G / val l:Nat):Int)<=400000000:=HQ.out;have h6:isz (((val l:Nat):Int)+((val G / val l:Nat):Int))=(dig (val l+val G / val l)).length:=rfl;omega
  go_wp2_with fail
  refine(a3r _ _ _ _ _ hg hr hD.out ca (by omega) hnl).mono ?_;rintro e wa ⟨sq,sr,rfl,hqa,hra,hba⟩;obtain⟨pq,cq,rfl,_,_⟩:=hqa.form;obtain⟨pz,cz,rfl,_,_⟩:=hra.form;have hr2:=hr.below hba;have hg2:=hg.below hba;have hq2:=hq.to hba;have hB2:=Below.tr hB hba;clear hr hg hq hB hba hra
  go_wp2_with fail
  refine(a3t _ _ _ _ _ hr2 hqa ca.1 (bZ _) (by omega) (by have:=HQ.out;omega)).mono ?_;rintro e wb ⟨sv,rfl,hown,hbb⟩;have hsa:=Rd.dN hown;obtain⟨ps,cs,rfl,_,_⟩:=hsa.form;have hr3:=hr2.below hbb;have hg3:=hg2.below hbb;have hq3:=hq2.to hbb;have hB3:=Below.tr hB2 hbb;clear hr2 hg2 hq2 hB2 hbb hown hqa
  go_wp2_with fail
  obtain⟨S,hS⟩:∃ S,val l+val (dig (val G / val l))=S:=⟨_,rfl⟩;have HSv:Hid (val l+val G / val l=S):=by unfold Hid;rw[<-hS,bM]
  rw[HSv.out] at HS;rw[hS] at hsa ⊢;clear hS;refine(short_any _ (dig S) 2 _ hsa (bZ _) (by omega) (by omega) HS.out).mono ?_;rintro e wc ⟨sn,rfl,hown,hbc⟩;rw[bM] at hown;obtain⟨T,hT⟩:∃ T,S / 2=T:=⟨_,rfl⟩;rw[hT] at hown;have hna:=Rd.dN hown;obtain⟨pn,cn,rfl,_,_⟩:=hna.form;have hr4:=hr3.below hbc;have hg4:=hg3.below hbc;have hq4:=hq3.to hbc;have hB4:=Below.tr hB3 hbc;clear hr3 hg3 hq3 hB3 hbc hown hsa;have HT:Hid (S / 2=T):=hT;clear hT;by_cases hlt:T<val l
  ·go_wp2_with fail
   have hcmp:=lQ _ _ _ _ _ hna hr4 (dJ _) ca;rw[bM,show dF (T:Int) (val l:Int)=-1 from dn (by omega)] at hcmp;refine hcmp.mono ?_;rintro e wd ⟨rfl,hbd⟩;have hn5:=hna.below hbd;have hg5:=hg4.below hbd;have hq5:=hq4.to hbd;have hB5:=Below.tr hB4 hbd;clear hr4 hg4 hq4 hB4 hna hbd hcmp
   go_wp2_with fail
   go_roundg (T)
   case rel =>
    have hTq:x.natAbs<(T+1)*(T+1):=by have:=ZH (n:=val G) (r:=val l) (by omega);rw[HSv.out,HT.out,hN.out] at this;exact this
    have hT1:1<=T:=by have:=NK (n:=val G) (r:=val l) (s:=1) (by omega) (by rw[hN.out];omega);rw[HSv.out,HT.out] at this;exact this
    exact⟨dig T,pn,cn,rfl,hn5,hg5,dJ _,fun e=>by have:=bM T;rw[e] at this;simp[val] at this;omega,by have:=aX (Nat.le_of_lt hlt);rw[dP ca] at this;omega,by unfold Hid;rw[bM];exact hTq,by unfold Hid;rw[bM],hq5,hB5⟩
   case measure=>rw[hk.out];exact hlt
  ·go_wp2_with fail
   have hcmp:=lQ _ _ _ _ _ hna hr4 (dJ _) ca;obtain⟨z,hz,hz0⟩:∃ z:Int,dF (T:Int) (val l:Int)=z/\0<=z:=by
    unfold dF;rw[bn (by omega)];split
    ·exact⟨1,rfl,by omega⟩
    ·exact⟨0,rfl,by omega⟩
   rw[bM,hz] at hcmp;refine hcmp.mono ?_;rintro e wd ⟨rfl,hbd⟩;have hr5:=hr4.below hbd;have hq5:=hq4.to hbd;have hB5:=Below.tr hB4 hbd;clear hr4 hg4 hq4 hB4 hna hbd hcmp hz
   go_wp2_with fail
   refine(KI _ _ _ _ hr5 ca.1).mono ?_;have HX:Hid (sg false (val l)=((isq x.natAbs:Nat):Int)):=by have h2:=UU (n:=val G) (r:=val l) (by omega) (by rw[HSv.out,HT.out];exact hlt);rw[hN.out] at h2;show ((val l:Nat):Int)=_;rw[b1N (by omega) h2 hs.out]
   rintro e we ⟨rv,rfl,hrv,hbe⟩;obtain⟨g2,p2,n2,c2,rfl⟩:=hrv.form;have hq6:=hq5.to hbe;obtain⟨k0,k1,k2,k3⟩:=hq6.cf2;have hB6:=Below.tr hB5 hbe
   go_wp2_with fail
   exact xk (v:=.tuple #[.agg #[.bool g2,.slice p2 n2 c2],.int .i64 0]) (by simp[results,Tryz.results181,go_sem,k0,k1,k2,k3]) rfl ⟨_,rfl,GU (hrv.iM hq6 rfl rfl (.bool g2) (.slice p2 n2 c2)) HX.out,(Below.iM hB6 (b:=w.heap.size+1) (by omega) (.bool g2) (.slice p2 n2 c2))⟩
def b7R:Ctr:=⟨[tZ],[tZ,tI],fun x=>(1:Int)<=(show Int from x.1)/\isz x.1<=400000000,fun x=>(((isq (show Int from x.1).natAbs:Nat):Int),(0:Int),())⟩
theorem a3B:aJ Tryz.prog 181 b7R:=by intro F w vs x hF hvs hp;obtain⟨v,vs',rfl,h1,h3⟩:=hvs;have h3:vs'=[]:=h3;subst h3;have hr:=XF h1;have hw:=hr.raw;obtain⟨s,e1,h2⟩:=hr;obtain⟨p,c,rfl,_,_⟩:=h2.form;rw[show decide ((show Int from x.1)<0)=false from iy (by have:=hp.1;omega)] at e1;subst e1;refine(b3u p _ c x.1 w hw hp.1 hp.2).mono ?_;rintro e w' ⟨r,rfl,h4,hb⟩;exact⟨_,rfl,⟨[_,_],rfl,_,_,rfl,a0k h4,_,_,rfl,WC _,rfl⟩,hb⟩
set_option maxHeartbeats 1000000
noncomputable def LZc:Lib:=LZb.c4y 151 b7Q b1l
noncomputable def LZd:Lib:=((((LZc
 ).add 182 (c5y dF) JY
 ).add 181 b7R a3B
 ).add 143 (cIQ aV (fun i=>(i:Rat))) RN
 ).add 121 (c5p s19 (fun x y=>decide (x=y))) b7j
set_option maxHeartbeats 4000000
abbrev c8T:Ty:=.pair tI (.pair tI .unit)
abbrev jD:Ty:=.pair tI (.pair tI (.pair tI (.pair tI .unit)))
abbrev b8Q:Ty:=.pair tI (.pair tI (.pair tI .unit))
abbrev FU:Ty:=.pair b8Q (.pair jD (.pair tI (.pair c8T .unit)))
def sta (x:Int):FU.den:=((x,(0:Int),(0:Int),()),((1:Int),(0:Int),(0:Int),(0:Int),()),(64:Int),((0:Int),(0:Int),()),())
def f0:List (List Rat):=[[0,0,0],[0,0,1],[0,-1,0]]
abbrev PL:Ty:=.pair jD (.pair (.arr 3 tZ) .unit)
def b6K (t:jD.den) (a b c:Int):PL.den:=(t,[a,b,c],())
def pB:jD.den:=((0:Int),(1:Int),(0:Int),(0:Int),())
def pA:jD.den:=((1:Int),(0:Int),(0:Int),(0:Int),())
def c8y:List PL.den:=[b6K pB 1 0 0,b6K pB (-1) 0 0,b6K pA 1 0 0,b6K pA (-1) 0 0]
def mR0:List (List Rat):=[[1,0,0],[0,-1,0],[0,0,-1]]
def mS0:List (List Rat):=[[1,0,0],[0,1,0],[0,0,1]]
abbrev LKk:LK:=.mat 39 47 tR
def sg0:FuncId->Sx:=b8A [(170,{ k:=[.mk [1,2,6,15,16,17] []] }),(169,{ k:=[.mk [2,3,5,6,20,21] [.mk [2,3,5,6,7,8,20,21] [],.mk [2,3,5,6,7,9,20,21] []]] }),(245,{ k:=[.mk [0,1,6,8] []],chg:=some (.row 47 tR) }),(244,{ new:=some LKk }),(276,{ caps:=[32] }),(184,{ k:=[.mk [1,2,6,7,13,14] [.mk [1,2,6,7,8,13,14,26,27] []]],mt:=[(11,tR)],new:=some LKk }),(242,{ caps:=[32] }),(211,{ k:=[.mk [0,1,4,7,8] []] }),(166,{ k:=[.mk [0,1,4,7,8] []] }),(185,{ caps:=[47,32] }),(273,{ caps:=[32] }),(64,{ k:=[.mk [0,4,7,8,9] []] }),(232,{ caps:=[32,32] }),(233,{ k:=[.mk [1,4,5,9,10,11] []] }),(230,{ k:=[.mk [2,6,7,8] []] }),(63,{ k:=[.mk [0,2,3,9,10,11] [],.mk [2,6,25,26,27] []] }),(56,{ k:=[.mk [2,3,6,7] []] }),(117,{ k:=[.mk [4,5,6,16,17] []] }),(209,{ k:=[.mk [0,4,5,11,12] []] }),(286,{ k:=[.mk [1,4,5,8,9,10] []] }),(285,{ caps:=[32] }),(116,{ k:=[.mk [2,5,6,7] []] }),(218,{ k:=[.mk [0,1,4,7,8] []] }),(227,{ caps:=[143] }),(226,{ caps:=[143] }),(271,{ k:=[.mk [0,1,4,7,8] []] }),(62,{ k:=[.mk [2,3,7,8,9] []] }),(149,{ k:=[.mk [0,2,3,22,23,24] [],.mk [2,3,10,11,12,44,45,46] [],.mk [2,10,11,79,80,81] []] }),(59,{ k:=[.mk [0,2,8,9,10] [],.mk [2,19,20,21] []] }),(21,{ k:=[.mk [2,3,23,24,25,135,136,137] []] }),(98,{ k:=[.mk [2,3,72,73,74] []] }),(198,{ k:=[.mk [1,2,3,4,14,15] [],.mk [2,3,4,7,23,24] []] }),(258,{ k:=[.mk [1,2,3,4,5,16,17] [],.mk [2,3,4,8,33,34] []] }),(197,{ k:=[.mk [2,5,6] []] }),(196,{ caps:=[32] }),(195,{ caps:=[32] }),(194,{ k:=[.mk [1,3,4,8,9] []],caps:=[32] }),(193,{ k:=[.mk [0,2,25,26,27] [.mk [0,2,7,25,26,27,32,33,34] []]] }),(189,{ caps:=[32,32] }),(188,{ caps:=[32,32] }),(93,{ k:=[.mk [0,2,3,11] [.mk [0,2,3,4,5,11,14] []]] }),(86,{ k:=[.mk [2,3,4,7,29] [.mk [2,3,4,7,8,9,29,32] [],.mk [2,3,4,7,12,13,29,60,61,62] []]] }),(159,{ k:=[.mk [0,1,4,5] []] }),(72,{ k:=[.mk [1,2,6,15,16,17] []] }),(154,{ kb:=[6] }),(237,{ caps:=[32,3] }),(236,{ k:=[.mk [0,4,5,12,13] [.mk [0,4,5,6,7,8,12,13] [],.mk [0,4,5,6,7,9,10,12,13] [],.mk [0,4,5,6,7,12,13,89,90] []]],chg:=some LKk }),(235,{ new:=some LKk }),(274,{ caps:=[32,32] }),(61,{ k:=[.mk [1,2,3,10,128,129] [.mk [1,2,3,10,13,128,129,132,133] []]] }),(146,{ k:=[.mk [2,9,10] []] })]
noncomputable def b0m:Ctr:=a4i [tM] [.list tZ,tQ] [((f0,()),(([1,0,0]:List Int),(1:Rat),()))]
theorem a8H:aJ Tryz.prog 86 b0m:=by
 refine DX (L:=LZd) (sg:=sg0) (n:=14) fun p hp=>?_;rcases jh.1 hp with rfl|hp
 ·kernel_rfl
 cases hp
noncomputable def b0n:Ctr:=a4i [tM] [tB] [((f0,()),(true,()))]
theorem a2V:aJ Tryz.prog 85 b0n:=by
 refine DX (L:=LZd) (sg:=sg0) (n:=14) fun p hp=>?_;rcases jh.1 hp with rfl|hp
 ·kernel_rfl
 cases hp
noncomputable def b7X:Ctr:=a4i [tM] [jD,tI] [((mR0,()),(pB,(0:Int),())),((mS0,()),(pA,(0:Int),()))]
theorem b1Y:aJ Tryz.prog 98 b7X:=by
 refine DX (L:=LZd) (sg:=sg0) (n:=14) fun p hp=>?_;rcases jh.1 hp with rfl|hp
 ·kernel_rfl
 rcases jh.1 hp with rfl|hp
 ·kernel_rfl
 cases hp
noncomputable def LZe:Lib:=((LZd.add 86 b0m a8H).add 85 b0n a2V).add 98 b7X b1Y
noncomputable def b7V:Ctr:=a4i [tM] [.list PL,tI] [((f0,()),(c8y,(0:Int),()))]
theorem b1V:aJ Tryz.prog 21 b7V:=by
 refine DX (L:=LZe) (sg:=sg0) (n:=14) fun p hp=>?_;rcases jh.1 hp with rfl|hp
 ·kernel_rfl
 cases hp
noncomputable def b7Y:Ctr:=a4i [FU,FU] [tM,tI] [((sta 0,sta 10,()),(f0,(0:Int),()))]
theorem b1Z:aJ Tryz.prog 11 b7Y:=by
 refine DX (L:=LZd) (sg:=sg0) (n:=14) fun p hp=>?_;rcases jh.1 hp with rfl|hp
 ·kernel_rfl
 cases hp
noncomputable def b7W:Ctr:=a4i [tM,FU,FU] [tM,tI] [((f0,sta 0,sta 10,()),(f0,(0:Int),()))]
theorem b1X:aJ Tryz.prog 26 b7W:=by
 refine DX (L:=LZd) (sg:=sg0) (n:=14) fun p hp=>?_;rcases jh.1 hp with rfl|hp
 ·kernel_rfl
 cases hp
noncomputable def LZf:Lib:=(((LZd.add 11 b7Y b1Z).add 26 b7W b1X).add 21 b7V b1V).add 85 b0n a2V
def b9i:Ctr:=⟨[],[tB],fun _=>True,fun _=>(true,())⟩
theorem a8I:aJ Tryz.prog 10 b9i:=by refine a0O (a6h (L:=LZf) (sg:=sg0) (n:=14) (ts:=[]) (rs:=[tB]) (pre:=fun _=>True) (f:=fun _=>(true,())) fun x _=>?_);obtain⟨⟩:=x;kernel_rfl
section
open Go Go.ChangeShapes Go.WideShapes Go.ChangeAt Go.RowKit Go.Joins
theorem own:ownKnob Tryz.prog.godebug=none:=by kernel_rfl
section
variable {H:Type} {enc:TypeId × Value->H} {W:World} {base:Nat}
end
end
end Go.Proofs.YtbkocjmmbkifjaaGreat
