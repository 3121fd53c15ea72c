/-
  Lemmas for the statements about datums, part 17 of 37.
-/
import Derived.Tactics
import Derived.Test.YtgplhbhfdgempaaGreatDb16
namespace Go.Proofs.YtgplhbhfdgempaaGreat
open Go Go.RowKit
theorem Ah:type_of% @funext:=@funext
section
set_option linter.unusedSimpArgs false
set_option linter.unusedVariables false
def EP (s:Value) (I:Nat->Value) (q:Nat):Prop:=cZ s=some q\/∃ i,cZ (I i)=some q
def Env.of (F:Nat->Prop) (w:World) (s:Value) (I:Nat->Value):Env:=⟨fun r=>if r=0 then cZ s else none,fun r=>if r=0 then s else undef,fun q=>F q\/EP s I q\/w.heap.size<=q,fun r i=>if r=0 then I i else undef,EP s I,fun r=>if r=0 then s else undef⟩
def a3P (x:Res) (r:Nat):Res:=if r=0 then x else .none
def NOk (P:Program) (f:FuncId):DF->Prop
 | .mk k args pre made=>∀ (F:Nat->Prop) (w:World) (vs:List Value) (y:(nest args).den),(∀ q,F q->q<w.heap.size)->kL F w args vs y->pre y ->
  Calls P f vs.toArray w fun e w'=>∃ v E ρ q v0,e=.returned v/\Mem E ρ w w'/\(∀ q,¬ E.rM q)/\ρ q=k.res (made y) v0/\v=E.sl q
 | .chg k args res pre out fn=>∀ (F:Nat->Prop) (w:World) (s:Value) (I:Nat->Value) (vs:List Value) (x:k.ty.den) (y:(nest args).den),(∀ q,F q->q<w.heap.size/\¬ EP s I q)->Mem (Env.of F w s I) (a3P (k.res x 0)) w w->kL F w args vs y->pre x y ->
  Calls P f (s::vs).toArray w fun e w'=>∃ v E ρ v0,e=.returned v/\Mem E ρ w w'/\E.base=(Env.of F w s I).base/\E.rM=EP s I/\ρ 0=k.res (out x y) v0/\E.sl 0=s/\sQ (fz w' E) w' res v (fn x y)
def SY (e:TypeId) (t:Ty) (r v:Nat):Res->Option (Nat × Option Nat × List t.den × (List t.den->Res))
 | .row e' t' xs v'=>match jS (.list t') (.list t) xs with
  | some ys=>if e'==e&&gv v==gv v' then some (r,none,ys,fun o=>.row e t o v') else none
  | none=>none
 | _=>none
def SX (e:TypeId) (t:Ty) (r v i:Nat):Res->Option (Nat × Option Nat × List t.den × (List t.den->Res))
 | .mat e1 e' t' ids xss v'=>match jS (.list (.list t')) (.list (.list t)) xss with
  | some yss=>if e'==e&&v==v' then some (r,some i,rowAt (α:=t.den) yss i,fun o=>.mat e1 e t ids (List.set (α:=List t.den) yss i o) v') else none
  | none=>none
 | _=>none
def SV (e e2:TypeId) (t:Ty) (r v:Nat):Res->Option (Nat × Option Nat × List (List t.den) × (List (List t.den)->Res))
 | .mat e' e2' t' none xss v'=>match jS (.list (.list t')) (.list (.list t)) xss with
  | some yss=>if e'==e&&e2'==e2&&gv v==gv v' then some (r,none,yss,fun o=>.mat e e2 t none o (v'+1)) else none
  | none=>none
 | _=>none
def a7o (ρ:Nat->Res):(k:LK)->K->Option (Nat × Option Nat × k.ty.den × (k.ty.den->Res))
 | .row e t,.own r v=>SY e t r v (ρ r)
 | .row e t,.mrow r v i=>SX e t r v i (ρ r)
 | .mat e e2 t,.own r v=>SV e e2 t r v (ρ r)
 | _,_=>none
def b8d (r:Nat) (row:Option Nat):K->Option (List Prop)
 | .val _ _=>some []
 | .nil=>some []
 | .own r' _=>if r'==r then none else some []
 | .mrow r' _ i=>if r'==r then row.map (fun i0=>[i≠i0]) else some []
 | _=>none
def NZ (ρ:Nat->Res) (r:Nat) (row:Option Nat):(ts:List Ty)->List K->Option (List Prop × (nest ts).den)
 | [],[]=>some ([],())
 | t::ts,k::ks=>match b8d r row k,wR ρ (some t) k with
  | some c,some p=>match pY p.t t,NZ ρ r row ts ks with
   | some q,some (vc,x)=>some (c++(q.c p.x++vc),(q.f p.x,x))
   | _,_=>none
  | _,_=>none
 | _,_=>none
def noL {α:Type}:List Prop × α × List (Nat × Res)->Option (List Prop × α)
 | (vc,y,[])=>some (vc,y)
 | _=>none
def JL (ρ:Nat->Res) (d:Option Nat) (ks:List K):DF->MK
 | .mk k args pre made=>match d with
  | some r=>if (ρ r).isNone&&k.el.free then (match pR ρ args ks with
   | some (vc,y)=>some (vc++[pre y],.own r 0,[(r,k.res (made y) 0)])
   | none=>none) else none
  | none=>none
 | .chg k args res pre out fn=>match ks with
  | k0::ks=>match a7o ρ k k0 with
   | some (r,row,x,back)=>if k.el.free then (match (DK ρ args ks).bind noL with
    | some (vc,y)=>some (vc++[pre x y],b2K res (fn x y),[(r,back (out x y))])
    | none=>if res.all Ty.free then (match NZ ρ r row args ks with
     | some (vc,y)=>some (vc++[pre x y],b2K res (fn x y),[(r,back (out x y))])
     | none=>none) else none) else none
   | none=>none
  | []=>none
def DU (ρ:Nat->Res) (d:Option Nat) (ks:List K):List DF->MK
 | []=>none
 | c::cs=>match JL ρ d ks c with
  | some a=>some a
  | none=>DU ρ d ks cs
def DV (P:Program) (T:Told) (ρ:Nat->Res) (k:Operand->K) (d:Option Nat):Op->MK
 | .call { callee:=.value f,args:=xs,argTypes:=_ }=>match k f with
  | .val (.clo g t) cx=>if OM P g&&yE t then DU ρ d (xs.toList.map k++a2J t cx) (T.nc g) else none
  | _=>none
 | _=>none
def c2O (s:Nat) (p:Part) (k:Operand->K):Operand->K:=fun y=>match y with
 | .tmp s'=>if s'=s then .val p.t p.x else k (.tmp s')
 | y=>k y
def ZP (P:Program) (ρ:Nat->Res) (k:Operand->K):Op->MK
 | .slice t (.tmp s) lo hi none=>match k (.tmp s) with
  | .own r v=>match wY ρ (.own r v) with
   | some (p,l)=>match QN P (c2O s p k) (.slice t (.tmp s) lo hi none) with
    | some (vc,kk)=>some (vc,kk,l)
    | none=>none
   | none=>none
  | _=>none
 | _=>none
def rF (P:Program) (C:FuncId->List Ctr) (T:Told) (ρ:Nat->Res) (k:Operand->K) (d:Option Nat) (op:Op):MK :=
 match gQ P k op with
 | some (vc,kk)=>some (vc,kk,[])
 | none=>match orC (SK P T k op) (orC (b4t P k op) (QN P k op)) with
  | some (vc,kk)=>some (vc,kk,[])
  | none=>match tN P T ρ k d op with
  | some r=>some r
  | none=>match PX P ρ k op with
   | some (vc,kk)=>some (vc,kk,[])
   | none=>match a2w P T ρ k d op with
    | some r=>some r
    | none=>match WR P T ρ k d op with
     | some r=>some r
     | none=>match FH P T ρ k d op with
      | some r=>some r
      | none=>match ZP P ρ k op with
       | some r=>some r
       | none=>match DV P T ρ k d op with
        | some r=>some r
        | none=>match xU P ρ k op with
         | some r=>some r
         | none=>xR P C ρ k op
section
variable {P:Program} {E:Env} {ρ:Nat->Res} {W w:World}
theorem LK.cnt (k:LK) (x:k.ty.den) (v v':Nat):(k.res x v).cnt=(k.res x v').cnt:=by cases k<;>rfl
theorem LK.nk (k:LK) (x:k.ty.den) (v:Nat) (k':K):k.res x v≠.nJ k':=by cases k<;>exact fun h=>by cases h
theorem LK.keep {k:LK} (hf:k.el.free=true) {E E':Env} {r r':Nat} {x:k.ty.den} {v v':Nat} (h1:E'.blk r'=E.blk r) (h2:E'.sl r'=E.sl r) (h3:E'.inn r'=E.inn r) (h:oM E w r (k.res x v)) (hn:∀ e t,k=.row e t->nnS v' (E'.sl r')):oM E' w r' (k.res x v'):=by
 cases k with
 | row e t =>
  obtain⟨k1,k2,cs,k3,k4,k5⟩:=h
  exact⟨by rw[h1,h2];exact k1,k2,cs,by rw[h2];exact k3,bJ (fun c y=>rC t hf c y) _ _ k4,by rw[h2];exact k5.1,hn _ _ rfl⟩
 | mat e e2 t =>
  obtain⟨k1,k2,⟨cs,k3,k4,k5⟩,k6,k7,k8⟩:=h
  refine⟨by rw[h1,h2];exact k1,k2,⟨cs,by rw[h2];exact k3,by rw[h3];exact k4,by rw[h2];exact k5⟩,k6,by rw[h3];exact k7,fun i xs hi=>?_⟩
  obtain⟨ds,q1,q2,q3⟩:=k8 i xs hi
  exact⟨ds,by rw[h3];exact q1,bJ (fun c y=>rC t hf c y) _ _ q2,by rw[h3];exact q3⟩
theorem LK.blk {k:LK} {E:Env} {r:Nat} {x:k.ty.den} {v:Nat} (h:oM E w r (k.res x v)):E.blk r=cZ (E.sl r):=by cases k<;>exact h.1
theorem mem_of {F:Nat->Prop} {s:Value} {I:Nat->Value} {x0:Res} (h1:oM (Env.of F w s I) w 0 x0) (hkb:∀ k,x0≠.nJ k) (hi0:∀ b i,cZ s=some b->cZ (I i)≠some b) (hi1:∀ b i i',cZ (I i)=some b->cZ (I i')=some b->i=i') (hin:∀ i,x0.cnt<=i->cZ (I i)=none):Mem (Env.of F w s I) (a3P x0) w w:=by
 have hh:∀ r j b,(Env.of F w s I).has r j b->r=0/\(match j with|0=>cZ s=some b|i+1=>cZ (I i)=some b):=fun r j b h=>by
  cases j with
  | zero =>
   have h:(if r=0 then cZ s else none)=some b:=h
   split at h
   ·rename_i e;exact⟨e,h⟩
   ·cases h
  | succ i =>
   have h:cZ (if r=0 then I i else undef)=some b:=h
   split at h
   ·rename_i e;exact⟨e,h⟩
   ·cases h
 refine⟨⟨rfl,rfl,rfl,aj _,fun _ _ _=>rfl⟩,fun r=>?_,fun r j r' j' b a c=>?_,fun r j b a=>?_,fun q hq=>?_,fun r i hi=>?_,fun r k e=>?_,fun b o n h=>h⟩
 ·by_cases e:r=0
  ·subst e;exact h1
  ·rw[show a3P x0 r=.none from dw e];exact dw e
 ·obtain⟨rfl,a⟩:=hh r j b a
  obtain⟨rfl,c⟩:=hh r' j' b c
  refine⟨rfl,?_⟩
  cases j<;>cases j'
  ·rfl
  ·exact absurd c (hi0 b _ a)
  ·exact absurd a (hi0 b _ c)
  ·rw[hi1 b _ _ a c]
 ·obtain⟨_,a⟩:=hh r j b a
  left
  cases j with
  | zero=>exact .inl a
  | succ i=>exact .inr ⟨i,a⟩
 ·exact hq.elim (fun h=>.inr (.inl h)) (fun h=>.inr (.inr h))
 ·by_cases e:r=0
  ·subst e;exact hin i hi
  ·show cZ (if r=0 then _ else undef)=none
   rw[dw e];rfl
 ·by_cases e':r=0
  ·subst e';exact absurd e (hkb k)
  ·rw[show a3P x0 r=.none from dw e'] at e;cases e
theorem a4f {F F':Nat->Prop} {ts:List Ty} {v:Value} {y:(nest ts).den} (hF:∀ q,F q->F' q) (h:sQ F w ts v y):sQ F' w ts v y:=by
 match ts,y,h with
 | [t],y,h=>exact iF hF (kQ.refl _ _) h
 | [],y,⟨vs,h1,h2⟩=>exact⟨vs,h1,lV hF (kQ.refl _ _) [] vs y h2⟩
 | t1::t2::ts,y,⟨vs,h1,h2⟩=>exact⟨vs,h1,lV hF (kQ.refl _ _) _ vs y h2⟩
theorem a0b {g:FuncId} {k:LK} {args res:List Ty} {pre:k.ty.den->(nest args).den->Prop} {out:k.ty.den->(nest args).den->k.ty.den} {fn:k.ty.den->(nest args).den->(nest res).den} (hN:NOk P g (.chg k args res pre out fn)) (hf:k.el.free=true) (hM:Mem E ρ W w)
  {r v' v'':Nat} {x:k.ty.den} (hr:ρ r=k.res x v') (hle:v'<=v'') (hvm:∀ e e2 t,k=.mat e e2 t->v'<v'') (hvr:∀ e t,k=.row e t->v''=v') {F:Nat->Prop} (hF2:∀ q,F q->q<w.heap.size/\∀ j,¬ E.has r j q)
  {vs:List Value} {y:(nest args).den} (ht:kL F w args vs y) (hres:res.all Ty.free=true\/∀ q,F q->fz w E q) (hp:pre x y) :
  Calls P g (E.sl r::vs).toArray w (fun e w'=>∃ v E',e=.returned v/\Mem E' (cO ρ r (k.res (out x y) v'')) W w'/\Ext E ρ w E' (cO ρ r (k.res (out x y) v'')) w'/\sQ (fz w' E') w' res v (fn x y)):=by
 have VR:=hM.res r
 rw[hr] at VR
 have hblk:=LK.blk VR
 have hX:∀ q,EP (E.sl r) (E.inn r) q↔∃ j,E.has r j q:=fun q=>⟨fun h=>h.elim (fun h=>⟨0,hblk.trans h⟩) (fun⟨i,h⟩=>⟨i+1,h⟩),fun⟨j,h⟩=>by
  cases j with
  | zero=>exact .inl (hblk.symm.trans h)
  | succ i=>exact .inr ⟨i,h⟩⟩
 have h0:Mem (Env.of F w (E.sl r) (E.inn r)) (a3P (k.res x 0)) w w:=mem_of (LK.keep hf (E:=E) (r:=r) (E':=Env.of F w (E.sl r) (E.inn r)) (r':=0) hblk.symm rfl rfl VR (fun _ _ _=>a5w _)) (LK.nk k x 0) (fun b i h1 h2=>by have:=(hM.inj r 0 r (i+1) b (hblk.trans h1) h2).2;cases this) (fun b i i' h1 h2=>by have:=(hM.inj r (i+1) r (i'+1) b h1 h2).2;omega) (fun i hi=>hM.inner r i (by rw[hr,LK.cnt k x v' 0];exact hi))
 refine(hN F w (E.sl r) (E.inn r) vs x y (fun q hq=>⟨(hF2 q hq).1,fun h=>by obtain⟨j,h⟩:=(hX q).1 h;exact(hF2 q hq).2 j h⟩) h0 ht hp).mono ?_
 rintro e w' ⟨v,E1,ρ1,v0,rfl,m1,m2,m3,m4,m5,m6⟩
 have hr1:=m1.res 0
 rw[m4] at hr1
 have hmb:∀ b,E1.rM b↔∃ j,E.has r j b:=by rw[m3];exact hX
 obtain⟨n1,n2⟩:=hM.JH (w':=w') r ⟨m1.below.os,m1.below.tape,m1.below.output,m1.below.size,fun b hb hn=>m1.below.blk b hb (fun h=>by obtain⟨j,h⟩:=(hmb b).1 h;exact hn r j rfl h),m1.dig⟩ (E1.blk 0) (E1.sl 0) (E1.inn 0) (k.res (out x y) v'')
  (LK.keep hf (E:=E1) (r:=0) (aG _ _ _) (aG _ _ _) (aG _ _ _) hr1 (fun e t e9=>by
   subst e9
   rw[hvr _ _ rfl,show (E.uJ r (E1.blk 0) (E1.sl 0) (E1.inn 0)).sl r=E1.sl 0 from aG _ _ _,m5]
   obtain⟨_,_,_,_,_,z⟩:=VR
   exact z.2))
  (fun q hq=>by
   have:∃ j,E1.has 0 j q:=hq.elim (fun h=>⟨0,h⟩) (fun⟨i,h⟩=>⟨i+1,h⟩)
   obtain⟨j,h⟩:=this
   rcases m1.mine 0 j q h with h|h
   ·exact .inl ((hmb q).1 h)
   ·exact .inr h)
  (fun q i h1 h2=>by have:=(m1.inj 0 0 0 (i+1) q h1 h2).2;cases this)
  (fun i i' q h1 h2=>by have:=(m1.inj 0 (i+1) 0 (i'+1) q h1 h2).2;omega)
  (fun i hi=>m1.inner 0 i (by rw[m4,LK.cnt k _ v0 v''];exact hi))
  (fun h=>by rw[hr] at h;cases k<;>exact h.elim)
  (fun h=>by rw[hr] at h;cases k<;>exact h.elim)
  (fun v h=>by rw[hr] at h;cases k<;>exact jc h hle)
  (fun v h h'=>by
   rw[hr] at h ⊢
   refine⟨?_,m5,?_⟩
   ·have h1:v<=v':=by cases k<;>exact h
    have h2:gv v''=gv v:=by cases k<;>exact h'
    have h3:gv v'=gv v:=by have:=MB h1;have:=MB hle;omega
    cases k<;>exact h3
   ·cases k<;>rfl)
  (fun v h h'=>by
   rw[hr] at h
   cases k with
   | row e t=>exact h'.elim
   | mat e e2 t =>
    have h1:v<=v':=h
    have h2:v''=v:=h'
    have:=hvm _ _ _ rfl
    omega)
  (fun _ k' e=>absurd e (LK.nk k _ _ k'))
 refine⟨v,_,rfl,n1,n2,?_⟩
 rcases hres with hres|hres
 ·exact XD hres m6
 ·refine a4f (fun q hq=>?_) m6
  have hb:=hq.1.2
  rw[m2] at hb
  have hb:F q\/EP (E.sl r) (E.inn r) q\/w.heap.size<=q:=hb
  refine vX hq.1.1 ?_ (fun r' j h=>?_)
  ·show E.base q
   rcases hb with hb|hb|hb
   ·exact(hres q hb).1.2
   ·obtain⟨j,h⟩:=(hX q).1 hb;exact hM.base _ (hM.mine r j q h)
   ·exact hM.base _ (.inr (jc hM.below.size hb))
  ·rw[oZ] at h
   split at h
   ·exact uQ hq 0 j (by cases j<;>exact h)
   ·rename_i hne
    rcases hb with hb|hb|hb
    ·exact uQ (hres q hb) r' j h
    ·obtain⟨j',h'⟩:=(hX q).1 hb;exact hne (hM.inj _ _ _ _ _ h h').1
    ·have:=hM.lt h;omega
theorem b4X {g:FuncId} {e e1:TypeId} {t:Ty} {args res:List Ty} {pre:List t.den->(nest args).den->Prop} {out:List t.den->(nest args).den->List t.den} {fn:List t.den->(nest args).den->(nest res).den} (hN:NOk P g (.chg (.row e t) args res pre out fn)) (hf:t.free=true) (hM:Mem E ρ W w)
  {r i v':Nat} {ids:Option (List Nat)} {xss:List (List t.den)} (hr:ρ r=.mat e1 e t ids xss v') (hi:i<xss.length) {F:Nat->Prop} (hF2:∀ q,F q->q<w.heap.size/\¬ E.has r (i+1) q)
  {vs:List Value} {y:(nest args).den} (ht:kL F w args vs y) (hres:res.all Ty.free=true\/∀ q,F q->fz w E q) (hp:pre (rowAt xss i) y) :
  Calls P g (E.inn r i::vs).toArray w (fun e9 w'=>∃ v E',e9=.returned v/\Mem E' (cO ρ r (.mat e1 e t ids (xss.set i (out (rowAt xss i) y)) v')) W w'/\Ext E ρ w E' (cO ρ r (.mat e1 e t ids (xss.set i (out (rowAt xss i) y)) v')) w'/\sQ (fz w' E') w' res v (fn (rowAt xss i) y)):=by
 have VR:=hM.res r
 rw[hr] at VR
 obtain⟨k1,k2,⟨cs,k3,k4,k5⟩,k6,k7,k8⟩:=VR
 obtain⟨ds,q1,q2,q3⟩:=pG hM hr hi
 have hX:∀ q,EP (E.inn r i) (fun _=>undef) q↔E.has r (i+1) q:=fun q=>⟨fun h=>h.elim id (fun⟨_,h⟩=>by cases h),fun h=>.inl h⟩
 have h0:Mem (Env.of F w (E.inn r i) (fun _=>undef)) (a3P ((LK.row e t).res (rowAt xss i) 0)) w w:=mem_of ⟨rfl,k2,ds,q1,bJ (fun c y=>rC t hf c y) _ _ q2,q3,a5w _⟩ (fun k e=>by cases e) (fun b i h1 h2=>by cases h2) (fun b i i' h1 h2=>by cases h1) (fun i hi=>rfl)
 refine(hN F w (E.inn r i) (fun _=>undef) vs (rowAt xss i) y (fun q hq=>⟨(hF2 q hq).1,fun h=>(hF2 q hq).2 ((hX q).1 h)⟩) h0 ht hp).mono ?_
 rintro e9 w' ⟨v,E1,ρ1,v0,rfl,m1,m2,m3,m4,m5,m6⟩
 have hr1:=m1.res 0
 rw[m4] at hr1
 obtain⟨p1,p2,cs1,p3,p4,p5⟩:=hr1
 rw[m5] at p1 p3 p5
 have hmb:∀ b,E1.rM b↔E.has r (i+1) b:=by rw[m3];exact hX
 have hg:lQ E w w' (fun q=>q=r):=⟨m1.below.os,m1.below.tape,m1.below.output,m1.below.size,fun b hb hn=>m1.below.blk b hb (fun h=>hn r (i+1) rfl ((hmb b).1 h)),m1.dig⟩
 have hst:∀ j b,j≠i+1->E.has r j b->w'.heap[b]?=w.heap[b]?:=fun j b hj hb=>m1.below.blk b (hM.lt hb) (fun h=>hj (hM.inj _ _ _ _ _ hb ((hmb b).1 h)).2)
 have hF9:∀ q,fz w E q->fz w' E q:=fun q hq=>⟨⟨jl hq.1.1 m1.below.size,hq.1.2⟩,hq.2⟩
 have a5h:aX ids (xss.set i (out (rowAt xss i) y))=aX ids xss:=by cases ids<;>simp[aX]
 have hx:oM E w' r (.mat e1 e t ids (xss.set i (out (rowAt xss i) y)) v'):=by
  refine⟨k1,k2,⟨cs,?_,?_,kU k5 (fun b e9=>hst 0 b (by omega) (k1.trans e9))⟩,?_,?_,fun j xs hj=>?_⟩
  ·rw[a5h];exact fQ k3 (fun b e9=>hst 0 b (by omega) (k1.trans e9))
  ·rw[a5h];exact k4
  ·rw[a5h,iw];exact k6
  ·rw[iw];exact k7
  ·by_cases e9:i=j
   ·subst e9
    rw[List.getElem?_set_self hi] at hj
    cases hj
    exact⟨cs1,p3,bJ (fun c y=>rC t hf c y) _ _ p4,p5.1⟩
   ·rw[List.getElem?_set_ne e9] at hj
    obtain⟨ds2,d1,d2,d3⟩:=k8 j xs hj
    exact⟨ds2,fQ d1 (fun b e8=>hst (j+1) b (by omega) e8),bJ (fun c y=>dJ hF9 hg.stay t c y) _ _ d2,kU d3 (fun b e8=>hst (j+1) b (by omega) e8)⟩
 obtain⟨n1,n2⟩:=hM.turns (E':=E) (ρ':=cO ρ r (.mat e1 e t ids (xss.set i (out (rowAt xss i) y)) v')) (fun q=>q=r) hg (fun q hq=>⟨rfl,rfl,rfl,aT _ _ hq⟩) rfl rfl rfl
  (fun r' j b e9 h=>.inl ⟨r',j,e9,h⟩) (fun r1 j r2 j' b _ _ h1 h2=>hM.inj _ _ _ _ _ h1 h2)
  (fun r' i' e9 h=>by subst e9;rw[aG] at h;exact hM.inner r' i' (by rw[hr];have h:(xss.set i _).length<=i':=h;rw[iw] at h;exact h))
  (fun r' e9 h=>by subst e9;rw[hr] at h;exact h.elim)
  (fun r' e9 h=>by subst e9;rw[hr] at h;exact h.elim)
  (fun r' v e9 h=>by subst e9;rw[aG];rw[hr] at h;exact h)
  (fun r' v e9 h h'=>by subst e9;rw[aG] at h' ⊢;exact⟨by rw[hr];exact h',rfl,by rw[hr];rfl⟩)
  (fun r' v e9 h h'=>by subst e9;rw[aG] at h' ⊢;exact⟨by rw[hr];exact h',by rw[hr];rfl,by rw[hr];exact Nat.le_of_eq (iw ..).symm,fun _ _=>rfl⟩)
  (fun r' e9=>by subst e9;rw[aG];exact hx)
  (fun _ r' k e9 h=>by subst e9;rw[aG] at h;cases h)
 refine⟨v,E,rfl,n1,n2,?_⟩
 rcases hres with hres|hres
 ·exact XD hres m6
 ·refine a4f (fun q hq=>?_) m6
  have hb:=hq.1.2
  rw[m2] at hb
  have hb:F q\/EP (E.inn r i) (fun _=>undef) q\/w.heap.size<=q:=hb
  have hno:¬ EP (E.inn r i) (fun _=>undef) q:=fun h=>by
   refine uQ hq 0 0 (show E1.blk 0=some q from ?_)
   have:E1.blk 0=cZ (E.inn r i):=p1
   rw[this];exact(hX q).1 h
  refine vX hq.1.1 ?_ (fun r' j h=>?_)
  ·rcases hb with hb|hb|hb
   ·exact(hres q hb).1.2
   ·exact absurd hb hno
   ·exact hM.base _ (.inr (jc hM.below.size hb))
  ·rcases hb with hb|hb|hb
   ·exact uQ (hres q hb) r' j h
   ·exact hno hb
   ·have:=hM.lt h;omega
theorem b4V {g:FuncId} {k:LK} {args:List Ty} {pre:(nest args).den->Prop} {made:(nest args).den->k.ty.den} (hN:NOk P g (.mk k args pre made)) (hf:k.el.free=true) (hM:Mem E ρ W w) {d:Nat} (hd:(ρ d).isNone=true) {vs:List Value} {y:(nest args).den} (ht:kL (JE w) w args vs y) (hp:pre y) :
  Calls P g vs.toArray w (fun e w'=>∃ v E',e=.returned v/\Mem E' (cO ρ d (k.res (made y) 0)) W w'/\Ext E ρ w E' (cO ρ d (k.res (made y) 0)) w'/\v=E'.sl d):=by
 refine(hN (JE w) w vs y (fun q hq=>hq) ht hp).mono ?_
 rintro e w' ⟨v,E1,ρ1,q0,v0,rfl,m1,m3,m4,m5⟩
 have hd:=Res.oC hd
 have hr1:=m1.res q0
 rw[m4] at hr1
 obtain⟨n1,n2⟩:=hM.JH (w':=w') d ⟨m1.below.os,m1.below.tape,m1.below.output,m1.below.size,fun b hb hn=>m1.below.blk b hb (m3 b),m1.dig⟩ (E1.blk q0) (E1.sl q0) (E1.inn q0) (k.res (made y) 0)
  (LK.keep hf (E:=E1) (r:=q0) (aG _ _ _) (aG _ _ _) (aG _ _ _) hr1 (fun _ _ _=>a5w _))
  (fun q hq=>by
   have:∃ j,E1.has q0 j q:=hq.elim (fun h=>⟨0,h⟩) (fun⟨i,h⟩=>⟨i+1,h⟩)
   obtain⟨j,h⟩:=this
   exact .inr ((m1.mine q0 j q h).resolve_left (m3 q)))
  (fun q i h1 h2=>by have:=(m1.inj q0 0 q0 (i+1) q h1 h2).2;cases this)
  (fun i i' q h1 h2=>by have:=(m1.inj q0 (i+1) q0 (i'+1) q h1 h2).2;omega)
  (fun i hi=>m1.inner q0 i (by rw[m4,LK.cnt k _ v0 0];exact hi))
  (fun h=>by rw[hd] at h;exact h.elim)
  (fun h=>by rw[hd] at h;exact h.elim)
  (fun v h=>by rw[hd] at h;exact h.elim)
  (fun v h _=>by rw[hd] at h;exact h.elim)
  (fun v h _=>by rw[hd] at h;exact h.elim)
  (fun _ k' e=>absurd e (LK.nk k _ _ k'))
 exact⟨v,_,rfl,n1,n2,by rw[m5];exact(aG _ _ _).symm⟩
def b1E (row:Option Nat) (j:Nat):Prop:=match row with
 | none=>True
 | some i=>j=i+1
theorem a4D {r:Nat} {row:Option Nat} (hM:Mem E ρ W w):∀ {ts:List Ty} {ks:List K} {vc:List Prop} {x:(nest ts).den} {vs:List Value},NZ ρ r row ts ks=some (vc,x)->aW vc->(∀ k ∈ ks,k.wf ρ)->mZ (fun k v=>K.holds E ρ w k v) ks vs->kL (fun q=>q<w.heap.size/\∀ j,b1E row j->¬ E.has r j q) w ts vs x
 | [],[],vc,x,vs,h,hv,hw,hk=>by cases hk;rfl
 | [],_::_,vc,x,vs,h,hv,hw,hk=>by simp[NZ] at h
 | _::_,[],vc,x,vs,h,hv,hw,hk=>by simp[NZ] at h
 | t::ts,k::ks,vc,x,vs,h,hv,hw,hk=>by
  simp only[NZ] at h
  split at h<;>try(cases h;done)
  rename_i c p hc h1
  split at h<;>try(cases h;done)
  rename_i q vc2 x2 hq h2
  simp only[ah,bI] at h
  obtain⟨rfl,rfl⟩:=h
  cases hk
  rename_i v vs hv1 hvs
  obtain⟨hvc,hv⟩:=dF.1 hv
  obtain⟨hva,hvb⟩:=dF.1 hv
  obtain⟨cs,rfl,hr⟩:=a0E (F:=fun q=>q<w.heap.size/\∀ j,b1E row j->¬ E.has r j q) h1 hM (hw k (jX ..)) hv1 (fun q hq=>⟨hq.1.1,fun j _=>uQ hq r j⟩) (fun r' ver e j g hg=>⟨hM.lt hg,fun j' _ hh=>by
   have:=(hM.inj _ _ _ _ _ hg hh).1
   subst e
   simp only[b8d] at hc
   split at hc
   ·cases hc
   ·rename_i hne;exact hne (by simpa using this)⟩) (fun r' ver i e g hg=>⟨hM.lt hg,fun j' hj hh=>by
   obtain⟨e1,e2⟩:=hM.inj _ _ _ _ _ hg hh
   subst e
   simp only[b8d] at hc
   split at hc
   ·cases row with
    | none=>cases hc
    | some i0 =>
     simp only[Option.map_some,ah] at hc
     subst hc
     have hj:j'=i0+1:=hj
     have:=hvc.1
     omega
   ·rename_i hne;exact hne (by simpa using e1)⟩)
  exact⟨_,vs,rfl,⟨cs,by unfold Ty.toV;rw[yF _ _ _ hq],zN _ _ _ hq cs _ hr hva⟩,a4D hM h2 hvb (fun k hk=>hw k (iy _ hk)) hvs⟩
theorem ZY {g:FuncId} {k:LK} {args res:List Ty} {pre:k.ty.den->(nest args).den->Prop} {out:k.ty.den->(nest args).den->k.ty.den} {fn:k.ty.den->(nest args).den->(nest res).den} (hN:NOk P g (.chg k args res pre out fn)) (hf:k.el.free=true) (hM:Mem E ρ W w) {k0:K} {r:Nat} {row:Option Nat} {x:k.ty.den} {back:k.ty.den->Res} (hl:a7o ρ k k0=some (r,row,x,back)) (hw:k0.wf ρ) {v0:Value} (hk:k0.holds E ρ w v0)
  {F:Nat->Prop} (hF2:∀ q,F q->q<w.heap.size/\∀ j,b1E row j->¬ E.has r j q) {vs:List Value} {y:(nest args).den} (ht:kL F w args vs y) (hres:res.all Ty.free=true\/∀ q,F q->fz w E q) (hp:pre x y) :
  Calls P g (v0::vs).toArray w (fun e w'=>∃ v E',e=.returned v/\Mem E' (cO ρ r (back (out x y))) W w'/\Ext E ρ w E' (cO ρ r (back (out x y))) w'/\sQ (fz w' E') w' res v (fn x y)):=by
 cases k with
 | row e t =>
  cases k0
  case own r0 ver =>
   have hl:SY e t r0 ver (ρ r0)=some (r,row,x,back):=hl
   unfold SY at hl
   split at hl<;>first|(cases hl;done)|skip
   rename_i e' t' xs v' hr
   split at hl<;>first|(cases hl;done)|skip
   rename_i ys hc
   split at hl<;>first|(cases hl;done)|skip
   rename_i hb
   simp only[ak,jd] at hb
   obtain⟨rfl,hb⟩:=hb
   cases hl
   obtain⟨e9,hc⟩:=fJ hc
   simp only[Ty.list.injEq] at e9
   subst e9
   have hc:xs=ys:=hc
   subst hc
   have hv:v0=E.sl r:=hk (by rw[hr];exact hb.symm)
   subst hv
   exact a0b (k:=.row e' t') hN hf hM (v':=v') (v'':=v') hr (aj _) (fun _ _ _ e=>by cases e) (fun _ _ _=>rfl) (fun q hq=>⟨(hF2 q hq).1,fun j=>(hF2 q hq).2 j trivial⟩) ht hres hp
  case mrow r0 ver i =>
   have hl:SX e t r0 ver i (ρ r0)=some (r,row,x,back):=hl
   unfold SX at hl
   split at hl<;>first|(cases hl;done)|skip
   rename_i e1 e' t' ids xss v' hr
   split at hl<;>first|(cases hl;done)|skip
   rename_i yss hc
   split at hl<;>first|(cases hl;done)|skip
   rename_i hb
   simp only[ak,jd] at hb
   obtain⟨rfl,rfl⟩:=hb
   cases hl
   obtain⟨e9,hc⟩:=fJ hc
   simp only[Ty.list.injEq] at e9
   subst e9
   have hc:xss=yss:=hc
   subst hc
   have hv:v0=E.inn r i:=hk (by rw[hr];rfl)
   subst hv
   have hi:=hw.2 (by rw[hr];rfl)
   rw[hr] at hi
   exact b4X hN hf hM hr hi (fun q hq=>⟨(hF2 q hq).1,(hF2 q hq).2 _ rfl⟩) ht hres hp
  all_goals
   have hl:none=some (r,row,x,back):=hl
   cases hl
 | mat e e2 t =>
  cases k0
  case own r0 ver =>
   have hl:SV e e2 t r0 ver (ρ r0)=some (r,row,x,back):=hl
   unfold SV at hl
   split at hl<;>first|(cases hl;done)|skip
   rename_i e' e2' t' xss v' hr
   split at hl<;>first|(cases hl;done)|skip
   rename_i yss hc
   split at hl<;>first|(cases hl;done)|skip
   rename_i hb
   simp only[ak,jd] at hb
   obtain⟨⟨rfl,rfl⟩,hb⟩:=hb
   cases hl
   obtain⟨e9,hc⟩:=fJ hc
   simp only[Ty.list.injEq] at e9
   subst e9
   have hc:xss=yss:=hc
   subst hc
   have hv:v0=E.sl r:=hk (by rw[hr];exact hb.symm)
   subst hv
   exact a0b (k:=.mat e' e2' t') hN hf hM (v':=v') (v'':=v'+1) hr (Nat.le_succ _) (fun _ _ _ _=>Nat.lt_succ_self _) (fun _ _ e=>by cases e) (fun q hq=>⟨(hF2 q hq).1,fun j=>(hF2 q hq).2 j trivial⟩) ht hres hp
  all_goals
   have hl:none=some (r,row,x,back):=hl
   cases hl
theorem YX {d:Option Nat} {g:FuncId} {ks:List K} {vs:List Value} {Q:Ending->World->Prop}:∀ {cs:List DF},(∀ c ∈ cs,NOk P g c)->∀ {vc:List Prop} {kk:K} {l:List (Nat × Res)},DU ρ d ks cs=some (vc,kk,l)->aW vc->Mem E ρ W w->(∀ k ∈ ks,k.wf ρ)->mZ (fun k v=>K.holds E ρ w k v) ks vs ->
  (∀ v w' E',Mem E' (after ρ l) W w'->Ext E ρ w E' (after ρ l) w'->kk.wf (after ρ l)->kk.holds E' (after ρ l) w' v->Q (.returned v) w')->Calls P g vs.toArray w Q
 | [],_,vc,kk,l,h,_,_,_,_,_=>by simp[DU] at h
 | c::cs,hN,vc,kk,l,h,hv,hM,hw,hk,hq=>by
  simp only[DU] at h
  split at h
  ·rename_i a ha
   simp only[ah] at h
   subst h
   have hc:=hN c (jX ..)
   cases c with
   | mk k args pre made =>
    simp only[JL] at ha
    split at ha<;>first|(cases ha;done)|skip
    rename_i _ r
    split at ha<;>first|(cases ha;done)|skip
    rename_i hb
    simp only[ak] at hb
    split at ha<;>first|(cases ha;done)|skip
    rename_i vc1 y hva
    simp only[ah,bI] at ha
    obtain⟨rfl,rfl,rfl⟩:=ha
    obtain⟨hv1,hp,_⟩:=dF.1 hv
    refine(b4V hc hb.2 hM hb.1 (FV hva hv1 hM hw hk) hp).mono ?_
    rintro e w' ⟨v,E',rfl,n1,n2,n3⟩
    refine hq v w' E' n1 n2 ?_ (fun _=>n3)
    show Res.fU 0 (cO ρ r _ r)
    rw[aG]
    cases k<;>exact aj _
   | chg k args res pre out fn =>
    simp only[JL] at ha
    split at ha<;>first|(cases ha;done)|skip
    rename_i k0 ks'
    cases hk
    rename_i v0 vs' hk0 hks
    split at ha<;>first|(cases ha;done)|skip
    rename_i r row x back hl
    split at ha<;>first|(cases ha;done)|skip
    rename_i hfr
    have hw0:=hw k0 (jX ..)
    have hws:∀ k ∈ ks',k.wf ρ:=fun k h=>hw k (iy _ h)
    split at ha
    ·rename_i vc1 y hva
     simp only[ah,bI] at ha
     obtain⟨rfl,rfl,rfl⟩:=ha
     obtain⟨hv1,hp,_⟩:=dF.1 hv
     simp only[Option.bind_eq_some_iff] at hva
     obtain⟨⟨vc2,y2,l2⟩,hva,h9⟩:=hva
     cases l2 with
     | cons _ _=>cases h9
     | nil =>
      simp only[noL,ah,bI] at h9
      obtain⟨rfl,rfl⟩:=h9
      obtain⟨E1,m1,m2,m3⟩:=TV hva hv1 hM hws hks
      have m1:Mem E1 ρ W w:=m1
      have m2:Ext E ρ w E1 ρ w:=m2
      refine(ZY hc hfr m1 hl hw0 (m2.holds _ _ hw0 hk0) (fun q hq=>⟨hq.1.1,fun j _=>uQ hq r j⟩) m3 (.inr fun q h=>h) hp).mono ?_
      rintro e w' ⟨v,E',rfl,n1,n2,n3⟩
      obtain⟨r1,r2⟩:=TJ (E:=E') (ρ:=cO ρ r (back (out x y2))) (w:=w') (F:=fz w' E') (fun q hq=>hq) n3
      exact hq v w' E' n1 (m2.trans n2) r2 r1
    ·split at ha<;>first|(cases ha;done)|skip
     rename_i hrf
     split at ha<;>first|(cases ha;done)|skip
     rename_i vc1 y hva
     simp only[ah,bI] at ha
     obtain⟨rfl,rfl,rfl⟩:=ha
     obtain⟨hv1,hp,_⟩:=dF.1 hv
     refine(ZY hc hfr hM hl hw0 hk0 (fun q hq=>hq) (a4D hM hva hv1 hws hks) (.inl hrf) hp).mono ?_
     rintro e w' ⟨v,E',rfl,n1,n2,n3⟩
     obtain⟨r1,r2⟩:=TJ (E:=E') (ρ:=cO ρ r (back (out x y))) (w:=w') (F:=fz w' E') (fun q hq=>hq) n3
     exact hq v w' E' n1 n2 r2 r1
  ·exact YX (fun c hc=>hN c (iy _ hc)) h hv hM hw hk hq
theorem a8A {T:Told} (hN:∀ g,∀ c ∈ T.nc g,NOk P g c) {k:Operand->K} {a:Act} {o:Oper} {vc:List Prop} {kk:K} {l:List (Nat × Res)} (h:DV P T ρ k o.dst o.op=some (vc,kk,l)) (hv:aW vc) (hM:Mem E ρ W w) (hw:∀ x,(k x).wf ρ) (hk:∀ x,(k x).holds E ρ w (a.eval x)):FZ P E ρ W w o a kk l:=by
 cases ho:o.op<;>rw[ho] at h<;>try (simp[DV] at h;done)
 case call c =>
  obtain⟨cl,xs,ts⟩:=c
  cases cl<;>try (simp[DV] at h;done)
  rename_i f
  simp only[DV] at h
  have a5i:=hk f
  split at h<;>try(cases h;done)
  rename_i g t cx hkf
  split at h<;>try(cases h;done)
  rename_i he
  simp only[ak] at he
  rw[hkf] at a5i
  obtain⟨cs,hfv,ds,hcs,hrep⟩:=a5i
  have hfv:a.eval f=.func (.func g) #[] ds.toArray:=by rw[hfv,hcs];rfl
  obtain⟨hks,hws⟩:=a1c (E:=E) (ρ:=ρ) t cx ds he.2 hrep (fun q h=>h)
  have ha:mZ (fun k v=>K.holds E ρ w k v) (xs.toList.map k++a2J t cx) (xs.toList.map a.eval++ds):=by
   generalize xs.toList=cl
   induction cl with
   | nil=>exact hks
   | cons x xs ih=>exact .cons (hk x) ih
  intro next Q hn
  have hrun:(execOp a.eval o).run P w=.ok (.enter g ((xs.toList.map a.eval++ds).toArray)) w:=by
   have:(xs.map a.eval++ds.toArray)=(xs.toList.map a.eval++ds).toArray:=by apply Aj;simp
   simp only[execOp,ho,resolve,Deferred.ofValue,hfv,ig,Sem.run_pure,Result.andThen_ok,invoke]
   rw[<-this]
   simp only[Array.empty_append]
   exact ZL he.1
  unfold Oper.wp
  rw[hrun,Oper.upon_enter]
  refine(YX (fun c hc=>hN g c hc) h hv hM (fun k9 hk9=>?_) ha (Q:=fun e w'=>∃ v,e=.returned v/\next (a.put o.dst v) w') (fun v w' E' m1 m2 m3 m4=>⟨v,rfl,hn v w' E' m1 m2 m3 m4⟩)).mono ?_
  ·rcases qA.1 hk9 with hk9|hk9
   ·obtain⟨q,_,rfl⟩:=ni.1 hk9;exact hw q
   ·exact hws k9 hk9
  ·rintro e w' ⟨v,rfl,h⟩
   exact h
theorem b1b {k:Operand->K} {a:Act} {o:Oper} {vc:List Prop} {kk:K} {l:List (Nat × Res)} (h:ZP P ρ k o.op=some (vc,kk,l)) (hv:aW vc) (hM:Mem E ρ W w) (hw:∀ x,(k x).wf ρ) (hk:∀ x,(k x).holds E ρ w (a.eval x)):FZ P E ρ W w o a kk l:=by
 unfold ZP at h
 split at h<;>try(cases h;done)
 rename_i t s lo hi hop
 split at h<;>try(cases h;done)
 rename_i r v hks
 split at h<;>try(cases h;done)
 rename_i p l' hav
 split at h<;>try(cases h;done)
 rename_i vc' kk' hc
 simp only[ah,bI] at h
 obtain⟨rfl,rfl,rfl⟩:=h
 have hws:=hw (.tmp s)
 have hhs:=hk (.tmp s)
 rw[hks] at hws hhs
 obtain⟨E',m1,m2,m3⟩:=sZ (t:=none) (k:=.own r v) hav hM hws hhs
 rw[<-hop] at hc
 obtain⟨⟨v',h1,h2⟩,h3⟩:=a2O (E:=E') (ρ:=after ρ l') (w:=w) (ev:=a.eval) hc hv (fun y=>by
  unfold c2O
  split
  ·split
   ·rename_i e;subst e;exact m3
   ·exact m2.holds _ _ (hw _) (hk _)
  ·exact m2.holds _ _ (hw _) (hk _))
 exact gK.steps ⟨.value v',v',w,E',h1,.inl rfl,m1,m2,h3,h2⟩
theorem a0y {C:FuncId->List Ctr} (hC:∀ g,∀ c ∈ C g,aY P g c) {T:Told} (hN:∀ g,∀ c ∈ T.nc g,NOk P g c) {k:Operand->K} {a:Act} {o:Oper} {vc:List Prop} {kk:K} {l:List (Nat × Res)} (h:rF P C T ρ k o.dst o.op=some (vc,kk,l)) (hv:aW vc) (hM:Mem E ρ W w) (hw:∀ x,(k x).wf ρ) (hk:∀ x,(k x).holds E ρ w (a.eval x)) (hwf:∀ vc' kk',gQ P k o.op=some (vc',kk')->kk'.wf ρ):FZ P E ρ W w o a kk l:=by
 unfold rF at h
 split at h
 ·rename_i vc' kk' hp
  simp only[ah,bI] at h
  obtain⟨rfl,rfl,rfl⟩:=h
  obtain⟨v,h1,h2⟩:=a9s hp hv hk
  exact gK.steps ⟨.value v,v,w,E,h1,.inl rfl,hM,Ext.refl _ _ _,hwf _ _ hp,h2⟩
 ·split at h
  ·rename_i vc' kk' hp
   simp only[ah,bI] at h
   obtain⟨rfl,rfl,rfl⟩:=h
   obtain⟨⟨v,h1,h2⟩,h3⟩:=(EW hp).elim (fun hp=>a4W (ρ:=ρ) hp hk) (fun hp=>(EW hp).elim (fun hp=>b4u (ρ:=ρ) hp hk) (fun hp=>a2O (ρ:=ρ) hp hv hk))
   exact gK.steps ⟨.value v,v,w,E,h1,.inl rfl,hM,Ext.refl _ _ _,h3,h2⟩
  ·split at h
   ·rename_i r hb
    simp only[ah] at h
    subst h
    exact(b0j hb hM hw hk).steps
   ·split at h
    ·rename_i vc' kk' hp
     simp only[ah,bI] at h
     obtain⟨rfl,rfl,rfl⟩:=h
     obtain⟨⟨v,h1,h2⟩,h3⟩:=b5t hp hv hM hw hk
     exact gK.steps ⟨.value v,v,w,E,h1,.inl rfl,hM,Ext.refl _ _ _,h3,h2⟩
    ·split at h
     ·rename_i r hb
      simp only[ah] at h
      subst h
      exact(b6c hb hv hM hw hk).steps
     ·split at h
      ·rename_i r hb
       simp only[ah] at h
       subst h
       exact(b4W hb hv hM hw hk).steps
      ·split at h
       ·rename_i r hb
        simp only[ah] at h
        subst h
        exact(b2S hb hv hM hw hk).steps
       ·split at h
        ·rename_i r hb
         simp only[ah] at h
         subst h
         exact b1b hb hv hM hw hk
        ·split at h
         ·rename_i r hb
          simp only[ah] at h
          subst h
          exact a8A hN hb hv hM hw hk
         ·split at h
          ·rename_i r hb
           simp only[ah] at h
           subst h
           exact(a8J hb hv hM hw hk).steps
          ·exact a8B hC h hv hM hw hk
end
end
section
set_option linter.unusedSimpArgs false
set_option linter.unusedVariables false
abbrev Gam:=List (Nat × K)
abbrev Rho:=List (Nat × Res)
def bZ:Gam->Nat->K
 | [],_=>.any
 | (s,k)::G,q=>if q=s then k else bZ G q
def bG:Rho->Nat->Res
 | [],_=>.none
 | (s,x)::R,q=>if q=s then x else bG R q
def b8c (r:Nat) (R:Rho):Rho:=R.filter fun p=>p.1 != r
theorem VN {r q:Nat} (h:q≠r):∀ (R:Rho),bG (b8c r R) q=bG R q
 | []=>rfl
 | (s,x)::R=>by
  unfold b8c
  rw[List.filter_cons]
  split
  ·simp only[bG]
   split
   ·rfl
   ·exact VN h R
  ·rename_i hs
   have hs:s=r:=by simpa using hs
   simp only[bG]
   rw[dw (by rw[hs];exact h)]
   exact VN h R
def aft (R:Rho):List (Nat × Res)->Rho
 | []=>R
 | q::l=>aft (q::b8c q.1 R) l
theorem VK:∀ (l:List (Nat × Res)) (R:Rho),bG (aft R l)=after (bG R) l
 | [],_=>rfl
 | (r,x)::l,R=>by
  rw[aft,VK l,after]
  congr 1
  funext q
  simp only[bG]
  unfold cO
  split
  ·rfl
  ·rename_i h;exact VN h R
def opK (G:Nat->K):Operand->K
 | .tmp s=>G s
 | .const v=>zQ v
 | .func f=>.val (.clo f .unit) ()
 | .global _=>.any
def unW:K->K
 | .when _ k=>k
 | k=>k
def b0F:K->List Prop
 | .when b _=>[b=true]
 | _=>[]
def tmpsOf (op:Op):List Nat:=op.operands.toList.filterMap fun x=>match x with
 | .tmp s=>some s
 | _=>none
def lS (ts:List Nat) (G:Nat->K) (s:Nat):K:=if ts.contains s then G s else .any
def keepW (op:Op) (s:Nat):Bool:=match op with
 | .pick (.tmp c) _ _=>c != s
 | _=>false
def unG (op:Op) (G:Nat->K) (s:Nat):K:=if keepW op s then G s else unW (G s)
def QM (op:Op) (s:Nat) (k:K):List Prop:=if keepW op s then [] else b0F k
structure Book where
 P:Program
 C:FuncId->List Ctr
 T:Told
 N:Nat
 keep:Nat->Bool
def Book.Ok (B:Book):Prop:=(∀ g,∀ c ∈ B.C g,aY B.P g c)/\∀ g,∀ c ∈ B.T.nc g,NOk B.P g c
def eqb (c b:Bool):Bool:=c==b
def b0M (B:Book):Option Nat->Bool
 | some d=>decide (d<B.N)&&!B.keep d
 | none=>true
def b1g (g:Bool):List Prop->List Prop
 | []=>[]
 | p::ps=>[g=true->aW (p::ps)]
theorem a8T {g:Bool} {l:List Prop} (h:aW (b1g g l)) (hg:g=true):aW l:=by
 cases l with
 | nil=>trivial
 | cons p ps=>exact h.1 hg
def gdK (b:Bool):K->Option Bool
 | .val .bool c=>some (eqb c b)
 | .when r (.val .bool c)=>some (r&&eqb c b)
 | _=>none
def yY (B:Book) (G:Nat->K) (ρ:Nat->Res) (ops:Array Oper) (o:Oper):MK:=if b0M B o.dst then (match o.guard with
 | none=>rF B.P B.C B.T ρ (opK (lS (tmpsOf o.op) G)) o.dst o.op
 | some (j,b)=>match (ops[j]?).bind (·.dst) with
  | some s=>match gdK b (G s) with
   | some g=>match rF B.P B.C B.T ρ (opK (lS (tmpsOf o.op) (unG o.op G))) o.dst o.op with
    | some (vc,k,[])=>some (b1g g ((tmpsOf o.op).flatMap (fun s=>QM o.op s (G s))++vc),.when g k,[])
    | _=>none
   | none=>none
  | none=>none) else none
def a2r (d:Option Nat) (k:K):List (Nat × K):=match d with
 | some d=>[(d,k)]
 | none=>[]
def jV {α:Type} (f:Nat->α):List (Nat × α)->Nat->α
 | []=>f
 | (r,x)::l=>jV (cO f r x) l
theorem tJ:∀ (l:List (Nat × Res)) (ρ:Nat->Res),after ρ l=jV ρ l
 | [],_=>rfl
 | (_,_)::l,_=>tJ l _
def b5p (d:Option Nat) (k:K) (G:Gam):Gam:=match d with
 | some d=>(d,k)::G
 | none=>G
theorem yL (G:Gam) (d:Option Nat) (k:K):bZ (b5p d k G)=jV (bZ G) (a2r d k):=by
 cases d with
 | none=>rfl
 | some d =>
  funext q
  show bZ ((d,k)::G) q=cO (bZ G) d k q
  simp only[bZ]
  unfold cO
  split
  ·rfl
  ·rfl
structure Fits (E:Env) (ρ:Nat->Res) (w:World) (B:Book) (a:Act) (G:Nat->K):Prop where
 size:a.tmps.size=B.N
 defers:a.defers=[]
 wf:∀ s,(G s).wf ρ
 holds:∀ s,(G s).holds E ρ w (a.eval (.tmp s))
 par:∀ s,B.keep s=true->a.eval (.tmp s)=E.par s
section
variable {B:Book} {E:Env} {ρ:Nat->Res} {W w:World} {G:Nat->K} {a:Act}
theorem b2w {c:Bool} {ka kb k:K} {vc:List Prop} (h:nN c ka kb=some (vc,k)):k.wf ρ:=by
 cases ka<;>try (simp[nN] at h;done)
 case val t x =>
  cases kb<;>try (simp[nN] at h;done)
  case val t' y =>
   simp only[nN,iq,bI] at h
   obtain⟨y',h1,rfl,rfl⟩:=h
   trivial
  case when b kb =>
   cases kb<;>try (simp[nN] at h;done)
   case val t' y =>
    simp only[nN,iq,bI] at h
    obtain⟨y',h1,rfl,rfl⟩:=h
    trivial
 case when b ka =>
  cases ka<;>try (simp[nN] at h;done)
  case val t x =>
   cases kb<;>try (simp[nN] at h;done)
   case val t' y =>
    simp only[nN,iq,bI] at h
    obtain⟨y',h1,rfl,rfl⟩:=h
    trivial
   case when b' kb =>
    cases kb<;>try (simp[nN] at h;done)
    case val t' y =>
     simp only[nN,iq,bI] at h
     obtain⟨y',h1,rfl,rfl⟩:=h
     trivial
def K.isVal:K->Bool
 | .val _ _=>true
 | _=>false
theorem MJ {k:K} (h:k.isVal=true):k.wf ρ:=by cases k<;>simp_all [K.isVal];trivial
theorem b1L {op:BinOp} {k:IntKind} {a b:Int} {vc:List Prop} {kk:K} (h:b1K op k a b=some (vc,kk)):kk.isVal=true:=by
 cases op<;>simp only[b1K,ah,bI] at h<;>first|(cases h;done)|(obtain⟨_,rfl⟩:=h;rfl)
theorem b4s {op:BinOp} {a b:Bool} {vc:List Prop} {kk:K} (h:eqB op a b=some (vc,kk)):kk.isVal=true:=by
 cases op<;>simp only[eqB,ah,bI] at h<;>first|(cases h;done)|(obtain⟨_,rfl⟩:=h;rfl)
theorem VA {r:Bool} {P:Program} {s:TypeId} {i:Nat} {ty:Ty} {y:ty.den} {vc:List Prop} {kk:K} (h:EC r P s i ty y=some (vc,kk)):kk.isVal=true:=by
 unfold EC at h
 split at h<;>try(cases h;done)
 split at h<;>try(cases h;done)
 simp only[ah,bI] at h
 obtain⟨_,rfl⟩:=h
 cases r<;>rfl
theorem a0n {P:Program} {k:Operand->K} {op:Op} {vc:List Prop} {kk:K} (h:gQ P k op=some (vc,kk)) (hw:∀ x,(k x).wf ρ):kk.wf ρ:=by
 cases op<;>try (simp[gQ] at h;done)
 case move x=>simp only[gQ,ah,bI] at h;rw[<-h.2];exact hw x
 case assign x=>simp only[gQ,ah,bI] at h;rw[<-h.2];exact hw x
 case pick c a b =>
  simp only[gQ] at h
  split at h<;>first|(cases h;done)|exact b2w h
 case call c =>
  obtain⟨cl,xs,ts⟩:=c
  cases cl<;>try (simp[gQ] at h;done)
  rename_i bi
  cases bi<;>try (simp[gQ] at h;done)
  simp only[gQ] at h
  (repeat' split at h)<;>first|(cases h;done)|(simp only[PN,b7N,ah,bI] at h;rw[<-h.2];trivial)
 case unOp op t x =>
  cases op<;>simp only[gQ] at h<;>try(cases h;done)
  all_goals (split at h<;>first|(cases h;done)|(simp only[b8a,b7X,a0F,ah,bI] at h;rw[<-h.2];trivial))
 case binOp op t x y yt =>
  simp only[gQ] at h
  split at h<;>try(cases h;done)
  ·split at h<;>first|(cases h;done)|exact MJ (b1L h)
  ·split at h<;>first|(cases h;done)|exact MJ (b4s h)
  ·split at h<;>first|(cases h;done)|(rename_i hb;cases op<;>simp only[b5c,ah,bI] at h<;>first|(cases h;done)|(rw[<-h.2];trivial))
 case extract x i =>
  simp only[gQ] at h
  split at h<;>try(cases h;done)
  ·split at h<;>first|(cases h;done)|(simp only[ah,bI] at h;rw[<-h.2];trivial)
  ·rename_i ks hkx
   have hwx:=hw x
   rw[hkx] at hwx
   split at h<;>first|(cases h;done)|(simp only[ah,bI] at h;rw[<-h.2])
   rename_i e
   exact a1E.1 (hwx _ (Aa e))
 case field s x i =>
  simp only[gQ] at h
  split at h<;>first|(cases h;done)|exact MJ (VA h)
 case fieldAddr s x i =>
  simp only[gQ] at h
  split at h<;>first|(cases h;done)|exact MJ (VA h)
 all_goals
  simp only[gQ] at h
  (repeat' split at h)<;>first|(cases h;done)|(simp only[LP,a6S,b4I,a0F,ah,bI] at h;rw[<-h.2];trivial)
theorem a8I (v:Value):(zQ v).wf ρ:=by unfold zQ;split<;>trivial
theorem WU (hf:Fits E ρ w B a G):(∀ x,(opK G x).wf ρ)/\∀ x,(opK G x).holds E ρ w (a.eval x):=by
 constructor
 ·intro x
  cases x with
  | tmp s=>exact hf.wf s
  | const v=>exact a8I v
  | func f=>trivial
  | global g=>trivial
 ·intro x
  cases x with
  | tmp s=>exact hf.holds s
  | const v=>exact a8H v
  | func f=>exact⟨[.func (.func f) #[] #[]],rfl,[],rfl,rfl⟩
  | global g=>trivial
theorem Fits.put {E':Env} {ρ':Nat->Res} {w':World} {o:Oper} {k:K} {v:Value} (hf:Fits E ρ w B a G) (hx:Ext E ρ w E' ρ' w') (hd:b0M B o.dst=true) (hw:k.wf ρ') (hk:k.holds E' ρ' w' v):Fits E' ρ' w' B (a.put o.dst v) (jV G (a2r o.dst k)):=by
 cases hod:o.dst with
 | none=>exact⟨hf.size,hf.defers,fun s=>hx.wf _ (hf.wf s),fun s=>hx.holds _ _ (hf.wf s) (hf.holds s),fun s hs=>by rw[hx.par];exact hf.par s hs⟩
 | some d =>
  rw[hod] at hd
  have hd:d<B.N/\B.keep d=false:=by simpa [b0M] using hd
  obtain⟨hd,hkd⟩:=hd
  refine⟨by simpa [Act.put] using hf.size,hf.defers,fun s=>?_,fun s=>?_,fun s hs=>?_⟩
  ·show K.wf ρ' (cO G d k s)
   unfold cO
   split
   ·exact hw
   ·exact hx.wf _ (hf.wf s)
  ·show K.holds E' ρ' w' (cO G d k s) _
   unfold cO
   split
   ·rename_i e
    subst e
    have:(a.put (some s) v).eval (.tmp s)=v:=by
     have hs9:=hf.size
     have hs8:s<a.tmps.size:=by rw[hs9];exact hd
     simp[Act.put,Act.eval,jk,hs8]
    rw[this];exact hk
   ·rename_i e
    have:(a.put (some d) v).eval (.tmp s)=a.eval (.tmp s):=by
     simp[Act.put,Act.eval,jk,Array.getElem?_setIfInBounds,show ¬ d=s from fun e'=>e e'.symm]
    rw[this];exact hx.holds _ _ (hf.wf s) (hf.holds s)
  ·have e:¬ d=s:=fun e=>by subst e;rw[hkd] at hs;cases hs
   have:(a.put (some d) v).eval (.tmp s)=a.eval (.tmp s):=by
    simp[Act.put,Act.eval,jk,Array.getElem?_setIfInBounds,e]
   rw[this,hx.par];exact hf.par s hs
theorem c1x {k:K} (h:k.wf ρ) (hc:aW (b0F k)):(unW k).wf ρ:=by cases k<;>first|exact h|exact h hc.1
theorem a9Q {k:K} {v:Value} (h:k.holds E ρ w v) (hc:aW (b0F k)):(unW k).holds E ρ w v:=by cases k<;>first|exact h|exact h.1 hc.1
theorem TS {l:List Prop} (h:aW l) {p:Prop} (hp:p ∈ l):p:=by
 induction l with
 | nil=>cases hp
 | cons q l ih =>
  rcases oq.1 hp with rfl|hp
  ·exact h.1
  ·exact ih h.2 hp
theorem OE {f:Nat->List Prop}:∀ {l:List Nat} {s:Nat},aW (l.flatMap f)->s ∈ l->aW (f s)
 | x::l,s,h,hs=>by
  rw[List.flatMap_cons] at h
  obtain⟨h1,h2⟩:=dF.1 h
  rcases oq.1 hs with rfl|hs
  ·exact h1
  ·exact OE h2 hs
theorem a9p {ts:List Nat} (hf:Fits E ρ w B a G):Fits E ρ w B a (lS ts G):=by
 refine⟨hf.size,hf.defers,fun s=>?_,fun s=>?_,hf.par⟩
 ·unfold lS;split
  ·exact hf.wf s
  ·trivial
 ·unfold lS;split
  ·exact hf.holds s
  ·trivial
theorem a5A {ts:List Nat} {op:Op} (hf:Fits E ρ w B a G) (hc:aW (ts.flatMap fun s=>QM op s (G s))):Fits E ρ w B a (lS ts (unG op G)):=by
 refine⟨hf.size,hf.defers,fun s=>?_,fun s=>?_,hf.par⟩
 ·unfold lS;split
  ·rename_i hs
   have hc:=OE hc (show s ∈ ts by simpa using hs)
   unfold unG;unfold QM at hc
   split
   ·exact hf.wf s
   ·rename_i hk;rw[dw hk] at hc;exact c1x (hf.wf s) hc
  ·trivial
 ·unfold lS;split
  ·rename_i hs
   have hc:=OE hc (show s ∈ ts by simpa using hs)
   unfold unG;unfold QM at hc
   split
   ·exact hf.holds s
   ·rename_i hk;rw[dw hk] at hc;exact a9Q (hf.holds s) hc
  ·trivial
theorem a3O (hB:B.Ok) {ops:Array Oper} {o:Oper} {vc:List Prop} {kk:K} {l:List (Nat × Res)} (h:yY B G ρ ops o=some (vc,kk,l)) (hv:aW vc) (hM:Mem E ρ W w) (hf:Fits E ρ w B a G)
  {next:Act->World->Prop} {Q:Exit->Act->World->Prop} (hn:∀ v w' E',Mem E' (after ρ l) W w'->Ext E ρ w E' (after ρ l) w'->kk.wf (after ρ l)->kk.holds E' (after ρ l) w' v->next (a.put o.dst v) w') :
  if Region.wanted o (yielded ops a.tmps) then o.wp B.P a w next Q\/(o.asks B.P a w/\LetsOut Q) else next (a.put o.dst undef) w:=by
 unfold yY at h
 split at h<;>try(cases h;done)
 rename_i hd
 cases hg:o.guard with
 | none =>
  simp only[hg] at h
  obtain⟨h1,h2⟩:=WU (a9p (ts:=tmpsOf o.op) hf)
  have hw:Region.wanted o (yielded ops a.tmps)=true:=by simp[Region.wanted,hg]
  rw[eY hw]
  exact .inl (a0y hB.1 hB.2 h hv hM h1 h2 (fun vc' kk' hp=>a0n hp h1) next Q hn)
 | some jb =>
  obtain⟨j,b⟩:=jb
  simp only[hg] at h
  split at h<;>try(cases h;done)
  rename_i s hs
  split at h<;>try(cases h;done)
  rename_i g hks
  split at h<;>try(cases h;done)
  rename_i vc1 k1 hst
  simp only[ah,bI] at h
  obtain⟨rfl,rfl,rfl⟩:=h
  have hwn:Region.wanted o (yielded ops a.tmps)=g:=by
   have hsv:=hf.holds s
   have hv1:∀ c:Bool,a.tmps.getD s undef=.bool c->Region.wanted o (yielded ops a.tmps)=eqb c b:=fun c h1=>by
    have ht:a.tmps[s]?=some (.bool c):=by
     rw[jk] at h1
     cases h2:a.tmps[s]? with
     | none=>rw[h2] at h1;cases h1
     | some v=>rw[h2] at h1;exact rD some h1
    simp[Region.wanted,hg,yielded,hs,ht]
    rfl
   have hv2:a.tmps.getD s undef=undef->Region.wanted o (yielded ops a.tmps)=false:=fun h1=>by
    rw[jk] at h1
    cases h2:a.tmps[s]? with
    | none=>simp[Region.wanted,hg,yielded,hs,h2]
    | some v =>
     rw[h2] at h1
     have h1:v=undef:=h1
     subst h1
     simp[Region.wanted,hg,yielded,hs,h2]
     try first|rfl|(intro e;cases e;done)|(simp[undef];done)|(unfold undef;simp;done)
   unfold gdK at hks
   split at hks<;>first|(cases hks;done)|skip
   ·rename_i c hk
    rw[hk] at hsv
    have hsv:=uN hsv
    simp only[ah] at hks
    rw[<-hks];exact hv1 c hsv
   ·rename_i r c hk
    rw[hk] at hsv
    simp only[ah] at hks
    rw[<-hks]
    cases r with
    | true=>have hsv:=uN (hsv.1 rfl);exact hv1 c hsv
    | false=>exact hv2 (hsv.2 rfl)
  rw[hwn]
  by_cases hcb:g=true
  ·rw[eY hcb]
   obtain⟨hv1,hv2⟩:=dF.1 (a8T hv hcb)
   obtain⟨h1,h2⟩:=WU (a5A hf hv1)
   exact .inl (a0y hB.1 hB.2 hst hv2 hM h1 h2 (fun vc' kk' hp=>a0n hp h1) next Q (fun v w' E' m1 m2 m3 m4=>hn v w' E' m1 m2 (fun _=>m3) ⟨fun _=>m4,fun e=>by rw[hcb] at e;cases e⟩))
  ·rw[dw hcb]
   exact hn undef w E hM (Ext.refl _ _ _) (fun e=>absurd e hcb) ⟨fun e=>absurd e hcb,fun _=>rfl⟩
def BH (B:Book) (ops:Array Oper):List Oper->Gam->Rho->Option (List Prop × Gam × Rho)
 | [],G,R=>some ([],G,R)
 | o::rest,G,R=>match yY B (bZ G) (bG R) ops o with
  | some (vc,k,l)=>match BH B ops rest (b5p o.dst k G) (aft R l) with
   | some (vc',G',R')=>some (vc++vc',G',R')
   | none=>none
  | none=>none
theorem a0k {ops:Array Oper} {o:Oper} {x:List Prop × K × List (Nat × Res)} (h:yY B G ρ ops o=some x):b0M B o.dst=true:=by
 unfold yY at h
 split at h
 ·assumption
 ·cases h
theorem a0v (hB:B.Ok) {ops:Array Oper} {Q:Exit->Act->World->Prop}:∀ {l:List Oper} {G:Gam} {R:Rho} {E:Env} {w:World} {a:Act} {vc:List Prop} {G':Gam} {R':Rho},BH B ops l G R=some (vc,G',R')->aW vc->Mem E (bG R) W w->Fits E (bG R) w B a (bZ G) ->
  (∀ E' a' w',E'.fix=E.fix->Mem E' (bG R') W w'->Fits E' (bG R') w' B a' (bZ G')->Q .normal a' w')->wpList B.P ops Q l a w
 | [],G,R,E,w,a,vc,G',R',h,hv,hM,hf,hq=>by
  simp only[BH,ah,bI] at h
  obtain⟨_,rfl,rfl⟩:=h
  exact hq E a w rfl hM hf
 | o::rest,G,R,E,w,a,vc,G',R',h,hv,hM,hf,hq=>by
  simp only[BH] at h
  split at h<;>try(cases h;done)
  rename_i vc1 k l1 h1
  split at h<;>try(cases h;done)
  rename_i vc2 G2 R2 h2
  simp only[ah,bI] at h
  obtain⟨rfl,rfl,rfl⟩:=h
  obtain⟨hv1,hv2⟩:=dF.1 hv
  exact a3O hB h1 hv1 hM hf (fun v w' E' m1 m2 m3 m4=>by
   rw[<-VK] at m1 m2 m3 m4
   exact a0v hB h2 hv2 m1 (by rw[yL];exact hf.put m2 (a0k h1) m3 m4) (fun E2 a2 w2 hb2=>hq E2 a2 w2 (hb2.trans m2.fix)))
end
end
end Go.Proofs.YtgplhbhfdgempaaGreat
