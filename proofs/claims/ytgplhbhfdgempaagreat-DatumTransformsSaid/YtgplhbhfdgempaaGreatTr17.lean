/-
  Lemmas for the theorem vtransforms_holds, part 17 of 39.
-/
import Derived.Tactics
import Derived.Test.YtgplhbhfdgempaaGreatTr16
namespace Go.Proofs.YtgplhbhfdgempaaGreat
open Go Go.RowKit
section
set_option linter.unusedSimpArgs false
set_option linter.unusedVariables false
def CU (s:Value) (I:Nat->Value) (q:Nat):Prop:=bU s=some q\/∃ i,bU (I i)=some q
def Env.of (F:Nat->Prop) (w:World) (s:Value) (I:Nat->Value):Env:=⟨fun r=>if r=0 then bU s else none,fun r=>if r=0 then s else undef,fun q=>F q\/CU s I q\/w.heap.size<=q,fun r i=>if r=0 then I i else undef,CU s I,fun r=>if r=0 then s else undef⟩
def a2F (x:Res) (r:Nat):Res:=if r=0 then x else .none
def NOk (P:Program) (f:FuncId):AO->Prop
 | .mk k args pre made=>∀ (F:Nat->Prop) (w:World) (vs:List Value) (y:(nest args).den),(∀ q,F q->q<w.heap.size)->jT F w args vs y->pre y ->
  Calls P f vs.toArray w fun e w'=>∃ v E ρ q v0,e=.returned v/\Mem E ρ w w'/\(∀ q,¬ E.qK q)/\ρ q=k.res (made y) v0/\v=E.sl q
 | .chg k args res pre out fn=>∀ (F:Nat->Prop) (w:World) (s:Value) (I:Nat->Value) (vs:List Value) (x:k.ty.den) (y:(nest args).den),(∀ q,F q->q<w.heap.size/\¬ CU s I q)->Mem (Env.of F w s I) (a2F (k.res x 0)) w w->jT F w args vs y->pre x y ->
  Calls P f (s::vs).toArray w fun e w'=>∃ v E ρ v0,e=.returned v/\Mem E ρ w w'/\E.base=(Env.of F w s I).base/\E.qK=CU s I/\ρ 0=k.res (out x y) v0/\E.sl 0=s/\rF (fz w' E) w' res v (fn x y)
def PZ (e:TypeId) (t:Ty) (r v:Nat):Res->Option (Nat × Option Nat × List t.den × (List t.den->Res))
 | .row e' t' xs v'=>match jE (.list t') (.list t) xs with
  | some ys=>if e'==e&&gv v==gv v' then some (r,none,ys,fun o=>.row e t o v') else none
  | none=>none
 | _=>none
def PY (e:TypeId) (t:Ty) (r v i:Nat):Res->Option (Nat × Option Nat × List t.den × (List t.den->Res))
 | .mat e1 e' t' ids xss v'=>match jE (.list (.list t')) (.list (.list t)) xss with
  | some yss=>if e'==e&&v==v' then some (r,some i,rowAt (α:=t.den) yss i,fun o=>.mat e1 e t ids (List.set (α:=List t.den) yss i o) v') else none
  | none=>none
 | _=>none
def PX (e e2:TypeId) (t:Ty) (r v:Nat):Res->Option (Nat × Option Nat × List (List t.den) × (List (List t.den)->Res))
 | .mat e' e2' t' none xss v'=>match jE (.list (.list t')) (.list (.list t)) xss with
  | some yss=>if e'==e&&e2'==e2&&gv v==gv v' then some (r,none,yss,fun o=>.mat e e2 t none o (v'+1)) else none
  | none=>none
 | _=>none
def a5S (ρ:Nat->Res):(k:LK)->K->Option (Nat × Option Nat × k.ty.den × (k.ty.den->Res))
 | .row e t,.own r v=>PZ e t r v (ρ r)
 | .row e t,.mrow r v i=>PY e t r v i (ρ r)
 | .mat e e2 t,.own r v=>PX e e2 t r v (ρ r)
 | _,_=>none
def b6z (r:Nat) (row:Option Nat):K->Option (List Prop)
 | .val _ _=>some []
 | .nil=>some []
 | .own r' _=>if r'==r then none else some []
 | .mrow r' _ i=>if r'==r then row.map (fun i0=>[i≠i0]) else some []
 | _=>none
def LH (ρ:Nat->Res) (r:Nat) (row:Option Nat):(ts:List Ty)->List K->Option (List Prop × (nest ts).den)
 | [],[]=>some ([],())
 | t::ts,k::ks=>match b6z r row k,vJ ρ (some t) k with
  | some c,some p=>match oP p.t t,LH ρ r row ts ks with
   | some q,some (vc,x)=>some (c++(q.c p.x++vc),(q.f p.x,x))
   | _,_=>none
  | _,_=>none
 | _,_=>none
def noL {α:Type}:List Prop × α × List (Nat × Res)->Option (List Prop × α)
 | (vc,y,[])=>some (vc,y)
 | _=>none
def GU (ρ:Nat->Res) (d:Option Nat) (ks:List K):AO->MK
 | .mk k args pre made=>match d with
  | some r=>if (ρ r).isNone&&k.el.free then (match oH ρ args ks with
   | some (vc,y)=>some (vc++[pre y],.own r 0,[(r,k.res (made y) 0)])
   | none=>none) else none
  | none=>none
 | .chg k args res pre out fn=>match ks with
  | k0::ks=>match a5S ρ k k0 with
   | some (r,row,x,back)=>if k.el.free then (match (BG ρ args ks).bind noL with
    | some (vc,y)=>some (vc++[pre x y],b1d res (fn x y),[(r,back (out x y))])
    | none=>if res.all Ty.free then (match LH ρ r row args ks with
     | some (vc,y)=>some (vc++[pre x y],b1d res (fn x y),[(r,back (out x y))])
     | none=>none) else none) else none
   | none=>none
  | []=>none
def BL (ρ:Nat->Res) (d:Option Nat) (ks:List K):List AO->MK
 | []=>none
 | c::cs=>match GU ρ d ks c with
  | some a=>some a
  | none=>BL ρ d ks cs
def BM (P:Program) (T:Told) (ρ:Nat->Res) (k:Operand->K) (d:Option Nat):Op->MK
 | .call { callee:=.value f,args:=xs,argTypes:=_ }=>match k f with
  | .val (.clo g t) cx=>if LY P g&&wV t then BL ρ d (xs.toList.map k++a1x t cx) (T.nc g) else none
  | _=>none
 | _=>none
def c1m (s:Nat) (p:Part) (k:Operand->K):Operand->K:=fun y=>match y with
 | .tmp s'=>if s'=s then .val p.t p.x else k (.tmp s')
 | y=>k y
def XI (P:Program) (ρ:Nat->Res) (k:Operand->K):Op->MK
 | .slice t (.tmp s) lo hi none=>match k (.tmp s) with
  | .own r v=>match vS ρ (.own r v) with
   | some (p,l)=>match NW P (c1m s p k) (.slice t (.tmp s) lo hi none) with
    | some (vc,kk)=>some (vc,kk,l)
    | none=>none
   | none=>none
  | _=>none
 | _=>none
def qG (P:Program) (C:FuncId->List Ctr) (T:Told) (ρ:Nat->Res) (k:Operand->K) (d:Option Nat) (op:Op):MK :=
 match gI P k op with
 | some (vc,kk)=>some (vc,kk,[])
 | none=>match orC (PO P T k op) (orC (b2O P k op) (NW P k op)) with
  | some (vc,kk)=>some (vc,kk,[])
  | none=>match rW P T ρ k d op with
  | some r=>some r
  | none=>match NG P ρ k op with
   | some (vc,kk)=>some (vc,kk,[])
   | none=>match a1l P T ρ k d op with
    | some r=>some r
    | none=>match TU P T ρ k d op with
     | some r=>some r
     | none=>match DL P T ρ k d op with
      | some r=>some r
      | none=>match XI P ρ k op with
       | some r=>some r
       | none=>match BM P T ρ k d op with
        | some r=>some r
        | none=>match wK P ρ k op with
         | some r=>some r
         | none=>wJ P C ρ k op
section
variable {P:Program} {E:Env} {ρ:Nat->Res} {W w:World}
theorem LK.cnt (k:LK) (x:k.ty.den) (v v':Nat):(k.res x v).cnt=(k.res x v').cnt:=by cases k<;>rfl
theorem LK.nk (k:LK) (x:k.ty.den) (v:Nat) (k':K):k.res x v≠.mJ k':=by cases k<;>exact fun h=>by cases h
theorem LK.keep {k:LK} (hf:k.el.free=true) {E E':Env} {r r':Nat} {x:k.ty.den} {v v':Nat} (h1:E'.blk r'=E.blk r) (h2:E'.sl r'=E.sl r) (h3:E'.inn r'=E.inn r) (h:nP E w r (k.res x v)) (hn:∀ e t,k=.row e t->nnS v' (E'.sl r')):nP E' w r' (k.res x v'):=by
 cases k with
 | row e t =>
  obtain⟨k1,k2,cs,k3,k4,k5⟩:=h
  exact⟨by rw[h1,h2];exact k1,k2,cs,by rw[h2];exact k3,aX (fun c y=>qF t hf c y) _ _ k4,by rw[h2];exact k5.1,hn _ _ rfl⟩
 | mat e e2 t =>
  obtain⟨k1,k2,⟨cs,k3,k4,k5⟩,k6,k7,k8⟩:=h
  refine⟨by rw[h1,h2];exact k1,k2,⟨cs,by rw[h2];exact k3,by rw[h3];exact k4,by rw[h2];exact k5⟩,k6,by rw[h3];exact k7,fun i xs hi=>?_⟩
  obtain⟨ds,q1,q2,q3⟩:=k8 i xs hi
  exact⟨ds,by rw[h3];exact q1,aX (fun c y=>qF t hf c y) _ _ q2,by rw[h3];exact q3⟩
theorem LK.blk {k:LK} {E:Env} {r:Nat} {x:k.ty.den} {v:Nat} (h:nP E w r (k.res x v)):E.blk r=bU (E.sl r):=by cases k<;>exact h.1
theorem mem_of {F:Nat->Prop} {s:Value} {I:Nat->Value} {x0:Res} (h1:nP (Env.of F w s I) w 0 x0) (hkb:∀ k,x0≠.mJ k) (hi0:∀ b i,bU s=some b->bU (I i)≠some b) (hi1:∀ b i i',bU (I i)=some b->bU (I i')=some b->i=i') (hin:∀ i,x0.cnt<=i->bU (I i)=none):Mem (Env.of F w s I) (a2F x0) w w:=by
 have hh:∀ r j b,(Env.of F w s I).has r j b->r=0/\(match j with|0=>bU s=some b|i+1=>bU (I i)=some b):=fun r j b h=>by
  cases j with
  | zero =>
   have h:(if r=0 then bU s else none)=some b:=h
   split at h
   ·rename_i e;exact⟨e,h⟩
   ·cases h
  | succ i =>
   have h:bU (if r=0 then I i else undef)=some b:=h
   split at h
   ·rename_i e;exact⟨e,h⟩
   ·cases h
 refine⟨⟨rfl,rfl,rfl,aj _,fun _ _ _=>rfl⟩,fun r=>?_,fun r j r' j' b a c=>?_,fun r j b a=>?_,fun q hq=>?_,fun r i hi=>?_,fun r k e=>?_,fun b o n h=>h⟩
 ·by_cases e:r=0
  ·subst e;exact h1
  ·rw[show a2F x0 r=.none from ig e];exact ig e
 ·obtain⟨rfl,a⟩:=hh r j b a
  obtain⟨rfl,c⟩:=hh r' j' b c
  refine⟨rfl,?_⟩
  cases j<;>cases j'
  ·rfl
  ·exact absurd c (hi0 b _ a)
  ·exact absurd a (hi0 b _ c)
  ·rw[hi1 b _ _ a c]
 ·obtain⟨_,a⟩:=hh r j b a
  left
  cases j with
  | zero=>exact .inl a
  | succ i=>exact .inr ⟨i,a⟩
 ·exact hq.elim (fun h=>.inr (.inl h)) (fun h=>.inr (.inr h))
 ·by_cases e:r=0
  ·subst e;exact hin i hi
  ·show bU (if r=0 then _ else undef)=none
   rw[ig e];rfl
 ·by_cases e':r=0
  ·subst e';exact absurd e (hkb k)
  ·rw[show a2F x0 r=.none from ig e'] at e;cases e
theorem a2R {F F':Nat->Prop} {ts:List Ty} {v:Value} {y:(nest ts).den} (hF:∀ q,F q->F' q) (h:rF F w ts v y):rF F' w ts v y:=by
 match ts,y,h with
 | [t],y,h=>exact gW hF (jW.refl _ _) h
 | [],y,⟨vs,h1,h2⟩=>exact⟨vs,h1,kZ hF (jW.refl _ _) [] vs y h2⟩
 | t1::t2::ts,y,⟨vs,h1,h2⟩=>exact⟨vs,h1,kZ hF (jW.refl _ _) _ vs y h2⟩
theorem XU {g:FuncId} {k:LK} {args res:List Ty} {pre:k.ty.den->(nest args).den->Prop} {out:k.ty.den->(nest args).den->k.ty.den} {fn:k.ty.den->(nest args).den->(nest res).den} (hN:NOk P g (.chg k args res pre out fn)) (hf:k.el.free=true) (hM:Mem E ρ W w)
  {r v' v'':Nat} {x:k.ty.den} (hr:ρ r=k.res x v') (hle:v'<=v'') (hvm:∀ e e2 t,k=.mat e e2 t->v'<v'') (hvr:∀ e t,k=.row e t->v''=v') {F:Nat->Prop} (hF2:∀ q,F q->q<w.heap.size/\∀ j,¬ E.has r j q)
  {vs:List Value} {y:(nest args).den} (ht:jT F w args vs y) (hres:res.all Ty.free=true\/∀ q,F q->fz w E q) (hp:pre x y) :
  Calls P g (E.sl r::vs).toArray w (fun e w'=>∃ v E',e=.returned v/\Mem E' (bT ρ r (k.res (out x y) v'')) W w'/\Ext E ρ w E' (bT ρ r (k.res (out x y) v'')) w'/\rF (fz w' E') w' res v (fn x y)):=by
 have TA:=hM.res r
 rw[hr] at TA
 have hblk:=LK.blk TA
 have hX:∀ q,CU (E.sl r) (E.inn r) q↔∃ j,E.has r j q:=fun q=>⟨fun h=>h.elim (fun h=>⟨0,hblk.trans h⟩) (fun⟨i,h⟩=>⟨i+1,h⟩),fun⟨j,h⟩=>by
  cases j with
  | zero=>exact .inl (hblk.symm.trans h)
  | succ i=>exact .inr ⟨i,h⟩⟩
 have h0:Mem (Env.of F w (E.sl r) (E.inn r)) (a2F (k.res x 0)) w w:=mem_of (LK.keep hf (E:=E) (r:=r) (E':=Env.of F w (E.sl r) (E.inn r)) (r':=0) hblk.symm rfl rfl TA (fun _ _ _=>a4i _)) (LK.nk k x 0) (fun b i h1 h2=>by have:=(hM.inj r 0 r (i+1) b (hblk.trans h1) h2).2;cases this) (fun b i i' h1 h2=>by have:=(hM.inj r (i+1) r (i'+1) b h1 h2).2;omega) (fun i hi=>hM.inner r i (by rw[hr,LK.cnt k x v' 0];exact hi))
 refine(hN F w (E.sl r) (E.inn r) vs x y (fun q hq=>⟨(hF2 q hq).1,fun h=>by obtain⟨j,h⟩:=(hX q).1 h;exact(hF2 q hq).2 j h⟩) h0 ht hp).mono ?_
 rintro e w' ⟨v,E1,ρ1,v0,rfl,m1,m2,m3,m4,m5,m6⟩
 have hr1:=m1.res 0
 rw[m4] at hr1
 have hmb:∀ b,E1.qK b↔∃ j,E.has r j b:=by rw[m3];exact hX
 obtain⟨n1,n2⟩:=hM.GK (w':=w') r ⟨m1.below.os,m1.below.tape,m1.below.output,m1.below.size,fun b hb hn=>m1.below.blk b hb (fun h=>by obtain⟨j,h⟩:=(hmb b).1 h;exact hn r j rfl h),m1.dig⟩ (E1.blk 0) (E1.sl 0) (E1.inn 0) (k.res (out x y) v'')
  (LK.keep hf (E:=E1) (r:=0) (aG _ _ _) (aG _ _ _) (aG _ _ _) hr1 (fun e t e9=>by
   subst e9
   rw[hvr _ _ rfl,show (E.sG r (E1.blk 0) (E1.sl 0) (E1.inn 0)).sl r=E1.sl 0 from aG _ _ _,m5]
   obtain⟨_,_,_,_,_,z⟩:=TA
   exact z.2))
  (fun q hq=>by
   have:∃ j,E1.has 0 j q:=hq.elim (fun h=>⟨0,h⟩) (fun⟨i,h⟩=>⟨i+1,h⟩)
   obtain⟨j,h⟩:=this
   rcases m1.mine 0 j q h with h|h
   ·exact .inl ((hmb q).1 h)
   ·exact .inr h)
  (fun q i h1 h2=>by have:=(m1.inj 0 0 0 (i+1) q h1 h2).2;cases this)
  (fun i i' q h1 h2=>by have:=(m1.inj 0 (i+1) 0 (i'+1) q h1 h2).2;omega)
  (fun i hi=>m1.inner 0 i (by rw[m4,LK.cnt k _ v0 v''];exact hi))
  (fun h=>by rw[hr] at h;cases k<;>exact h.elim)
  (fun h=>by rw[hr] at h;cases k<;>exact h.elim)
  (fun v h=>by rw[hr] at h;cases k<;>exact jg h hle)
  (fun v h h'=>by
   rw[hr] at h ⊢
   refine⟨?_,m5,?_⟩
   ·have h1:v<=v':=by cases k<;>exact h
    have h2:gv v''=gv v:=by cases k<;>exact h'
    have h3:gv v'=gv v:=by have:=JY h1;have:=JY hle;omega
    cases k<;>exact h3
   ·cases k<;>rfl)
  (fun v h h'=>by
   rw[hr] at h
   cases k with
   | row e t=>exact h'.elim
   | mat e e2 t =>
    have h1:v<=v':=h
    have h2:v''=v:=h'
    have:=hvm _ _ _ rfl
    omega)
  (fun _ k' e=>absurd e (LK.nk k _ _ k'))
 refine⟨v,_,rfl,n1,n2,?_⟩
 rcases hres with hres|hres
 ·exact UL hres m6
 ·refine a2R (fun q hq=>?_) m6
  have hb:=hq.1.2
  rw[m2] at hb
  have hb:F q\/CU (E.sl r) (E.inn r) q\/w.heap.size<=q:=hb
  refine uO hq.1.1 ?_ (fun r' j h=>?_)
  ·show E.base q
   rcases hb with hb|hb|hb
   ·exact(hres q hb).1.2
   ·obtain⟨j,h⟩:=(hX q).1 hb;exact hM.base _ (hM.mine r j q h)
   ·exact hM.base _ (.inr (jg hM.below.size hb))
  ·rw[nY] at h
   split at h
   ·exact sQ hq 0 j (by cases j<;>exact h)
   ·rename_i hne
    rcases hb with hb|hb|hb
    ·exact sQ (hres q hb) r' j h
    ·obtain⟨j',h'⟩:=(hX q).1 hb;exact hne (hM.inj _ _ _ _ _ h h').1
    ·have:=hM.lt h;omega
theorem b3y {g:FuncId} {e e1:TypeId} {t:Ty} {args res:List Ty} {pre:List t.den->(nest args).den->Prop} {out:List t.den->(nest args).den->List t.den} {fn:List t.den->(nest args).den->(nest res).den} (hN:NOk P g (.chg (.row e t) args res pre out fn)) (hf:t.free=true) (hM:Mem E ρ W w)
  {r i v':Nat} {ids:Option (List Nat)} {xss:List (List t.den)} (hr:ρ r=.mat e1 e t ids xss v') (hi:i<xss.length) {F:Nat->Prop} (hF2:∀ q,F q->q<w.heap.size/\¬ E.has r (i+1) q)
  {vs:List Value} {y:(nest args).den} (ht:jT F w args vs y) (hres:res.all Ty.free=true\/∀ q,F q->fz w E q) (hp:pre (rowAt xss i) y) :
  Calls P g (E.inn r i::vs).toArray w (fun e9 w'=>∃ v E',e9=.returned v/\Mem E' (bT ρ r (.mat e1 e t ids (xss.set i (out (rowAt xss i) y)) v')) W w'/\Ext E ρ w E' (bT ρ r (.mat e1 e t ids (xss.set i (out (rowAt xss i) y)) v')) w'/\rF (fz w' E') w' res v (fn (rowAt xss i) y)):=by
 have TA:=hM.res r
 rw[hr] at TA
 obtain⟨k1,k2,⟨cs,k3,k4,k5⟩,k6,k7,k8⟩:=TA
 obtain⟨ds,q1,q2,q3⟩:=oC hM hr hi
 have hX:∀ q,CU (E.inn r i) (fun _=>undef) q↔E.has r (i+1) q:=fun q=>⟨fun h=>h.elim id (fun⟨_,h⟩=>by cases h),fun h=>.inl h⟩
 have h0:Mem (Env.of F w (E.inn r i) (fun _=>undef)) (a2F ((LK.row e t).res (rowAt xss i) 0)) w w:=mem_of ⟨rfl,k2,ds,q1,aX (fun c y=>qF t hf c y) _ _ q2,q3,a4i _⟩ (fun k e=>by cases e) (fun b i h1 h2=>by cases h2) (fun b i i' h1 h2=>by cases h1) (fun i hi=>rfl)
 refine(hN F w (E.inn r i) (fun _=>undef) vs (rowAt xss i) y (fun q hq=>⟨(hF2 q hq).1,fun h=>(hF2 q hq).2 ((hX q).1 h)⟩) h0 ht hp).mono ?_
 rintro e9 w' ⟨v,E1,ρ1,v0,rfl,m1,m2,m3,m4,m5,m6⟩
 have hr1:=m1.res 0
 rw[m4] at hr1
 obtain⟨p1,p2,cs1,p3,p4,p5⟩:=hr1
 rw[m5] at p1 p3 p5
 have hmb:∀ b,E1.qK b↔E.has r (i+1) b:=by rw[m3];exact hX
 have hg:kV E w w' (fun q=>q=r):=⟨m1.below.os,m1.below.tape,m1.below.output,m1.below.size,fun b hb hn=>m1.below.blk b hb (fun h=>hn r (i+1) rfl ((hmb b).1 h)),m1.dig⟩
 have hst:∀ j b,j≠i+1->E.has r j b->w'.heap[b]?=w.heap[b]?:=fun j b hj hb=>m1.below.blk b (hM.lt hb) (fun h=>hj (hM.inj _ _ _ _ _ hb ((hmb b).1 h)).2)
 have hF9:∀ q,fz w E q->fz w' E q:=fun q hq=>⟨⟨ku hq.1.1 m1.below.size,hq.1.2⟩,hq.2⟩
 have a3S:aV ids (xss.set i (out (rowAt xss i) y))=aV ids xss:=by cases ids<;>simp[aV]
 have hx:nP E w' r (.mat e1 e t ids (xss.set i (out (rowAt xss i) y)) v'):=by
  refine⟨k1,k2,⟨cs,?_,?_,kD k5 (fun b e9=>hst 0 b (by omega) (k1.trans e9))⟩,?_,?_,fun j xs hj=>?_⟩
  ·rw[a3S];exact fH k3 (fun b e9=>hst 0 b (by omega) (k1.trans e9))
  ·rw[a3S];exact k4
  ·rw[a3S,iy];exact k6
  ·rw[iy];exact k7
  ·by_cases e9:i=j
   ·subst e9
    rw[List.getElem?_set_self hi] at hj
    cases hj
    exact⟨cs1,p3,aX (fun c y=>qF t hf c y) _ _ p4,p5.1⟩
   ·rw[List.getElem?_set_ne e9] at hj
    obtain⟨ds2,d1,d2,d3⟩:=k8 j xs hj
    exact⟨ds2,fH d1 (fun b e8=>hst (j+1) b (by omega) e8),aX (fun c y=>dD hF9 hg.stay t c y) _ _ d2,kD d3 (fun b e8=>hst (j+1) b (by omega) e8)⟩
 obtain⟨n1,n2⟩:=hM.turns (E':=E) (ρ':=bT ρ r (.mat e1 e t ids (xss.set i (out (rowAt xss i) y)) v')) (fun q=>q=r) hg (fun q hq=>⟨rfl,rfl,rfl,aP _ _ hq⟩) rfl rfl rfl
  (fun r' j b e9 h=>.inl ⟨r',j,e9,h⟩) (fun r1 j r2 j' b _ _ h1 h2=>hM.inj _ _ _ _ _ h1 h2)
  (fun r' i' e9 h=>by subst e9;rw[aG] at h;exact hM.inner r' i' (by rw[hr];have h:(xss.set i _).length<=i':=h;rw[iy] at h;exact h))
  (fun r' e9 h=>by subst e9;rw[hr] at h;exact h.elim)
  (fun r' e9 h=>by subst e9;rw[hr] at h;exact h.elim)
  (fun r' v e9 h=>by subst e9;rw[aG];rw[hr] at h;exact h)
  (fun r' v e9 h h'=>by subst e9;rw[aG] at h' ⊢;exact⟨by rw[hr];exact h',rfl,by rw[hr];rfl⟩)
  (fun r' v e9 h h'=>by subst e9;rw[aG] at h' ⊢;exact⟨by rw[hr];exact h',by rw[hr];rfl,by rw[hr];exact Nat.le_of_eq (iy ..).symm,fun _ _=>rfl⟩)
  (fun r' e9=>by subst e9;rw[aG];exact hx)
  (fun _ r' k e9 h=>by subst e9;rw[aG] at h;cases h)
 refine⟨v,E,rfl,n1,n2,?_⟩
 rcases hres with hres|hres
 ·exact UL hres m6
 ·refine a2R (fun q hq=>?_) m6
  have hb:=hq.1.2
  rw[m2] at hb
  have hb:F q\/CU (E.inn r i) (fun _=>undef) q\/w.heap.size<=q:=hb
  have hno:¬ CU (E.inn r i) (fun _=>undef) q:=fun h=>by
   refine sQ hq 0 0 (show E1.blk 0=some q from ?_)
   have:E1.blk 0=bU (E.inn r i):=p1
   rw[this];exact(hX q).1 h
  refine uO hq.1.1 ?_ (fun r' j h=>?_)
  ·rcases hb with hb|hb|hb
   ·exact(hres q hb).1.2
   ·exact absurd hb hno
   ·exact hM.base _ (.inr (jg hM.below.size hb))
  ·rcases hb with hb|hb|hb
   ·exact sQ (hres q hb) r' j h
   ·exact hno hb
   ·have:=hM.lt h;omega
theorem b3v {g:FuncId} {k:LK} {args:List Ty} {pre:(nest args).den->Prop} {made:(nest args).den->k.ty.den} (hN:NOk P g (.mk k args pre made)) (hf:k.el.free=true) (hM:Mem E ρ W w) {d:Nat} (hd:(ρ d).isNone=true) {vs:List Value} {y:(nest args).den} (ht:jT (GH w) w args vs y) (hp:pre y) :
  Calls P g vs.toArray w (fun e w'=>∃ v E',e=.returned v/\Mem E' (bT ρ d (k.res (made y) 0)) W w'/\Ext E ρ w E' (bT ρ d (k.res (made y) 0)) w'/\v=E'.sl d):=by
 refine(hN (GH w) w vs y (fun q hq=>hq) ht hp).mono ?_
 rintro e w' ⟨v,E1,ρ1,q0,v0,rfl,m1,m3,m4,m5⟩
 have hd:=Res.nI hd
 have hr1:=m1.res q0
 rw[m4] at hr1
 obtain⟨n1,n2⟩:=hM.GK (w':=w') d ⟨m1.below.os,m1.below.tape,m1.below.output,m1.below.size,fun b hb hn=>m1.below.blk b hb (m3 b),m1.dig⟩ (E1.blk q0) (E1.sl q0) (E1.inn q0) (k.res (made y) 0)
  (LK.keep hf (E:=E1) (r:=q0) (aG _ _ _) (aG _ _ _) (aG _ _ _) hr1 (fun _ _ _=>a4i _))
  (fun q hq=>by
   have:∃ j,E1.has q0 j q:=hq.elim (fun h=>⟨0,h⟩) (fun⟨i,h⟩=>⟨i+1,h⟩)
   obtain⟨j,h⟩:=this
   exact .inr ((m1.mine q0 j q h).resolve_left (m3 q)))
  (fun q i h1 h2=>by have:=(m1.inj q0 0 q0 (i+1) q h1 h2).2;cases this)
  (fun i i' q h1 h2=>by have:=(m1.inj q0 (i+1) q0 (i'+1) q h1 h2).2;omega)
  (fun i hi=>m1.inner q0 i (by rw[m4,LK.cnt k _ v0 0];exact hi))
  (fun h=>by rw[hd] at h;exact h.elim)
  (fun h=>by rw[hd] at h;exact h.elim)
  (fun v h=>by rw[hd] at h;exact h.elim)
  (fun v h _=>by rw[hd] at h;exact h.elim)
  (fun v h _=>by rw[hd] at h;exact h.elim)
  (fun _ k' e=>absurd e (LK.nk k _ _ k'))
 exact⟨v,_,rfl,n1,n2,by rw[m5];exact(aG _ _ _).symm⟩
def a9W (row:Option Nat) (j:Nat):Prop:=match row with
 | none=>True
 | some i=>j=i+1
theorem a3t {r:Nat} {row:Option Nat} (hM:Mem E ρ W w):∀ {ts:List Ty} {ks:List K} {vc:List Prop} {x:(nest ts).den} {vs:List Value},LH ρ r row ts ks=some (vc,x)->bY vc->(∀ k ∈ ks,k.wf ρ)->lY (fun k v=>K.holds E ρ w k v) ks vs->jT (fun q=>q<w.heap.size/\∀ j,a9W row j->¬ E.has r j q) w ts vs x
 | [],[],vc,x,vs,h,hv,hw,hk=>by cases hk;rfl
 | [],_::_,vc,x,vs,h,hv,hw,hk=>by simp[LH] at h
 | _::_,[],vc,x,vs,h,hv,hw,hk=>by simp[LH] at h
 | t::ts,k::ks,vc,x,vs,h,hv,hw,hk=>by
  simp only[LH] at h
  split at h<;>try(cases h;done)
  rename_i c p hc h1
  split at h<;>try(cases h;done)
  rename_i q vc2 x2 hq h2
  simp only[ah,dh] at h
  obtain⟨rfl,rfl⟩:=h
  cases hk
  rename_i v vs hv1 hvs
  obtain⟨hvc,hv⟩:=bW.1 hv
  obtain⟨hva,hvb⟩:=bW.1 hv
  obtain⟨cs,rfl,hr⟩:=ZA (F:=fun q=>q<w.heap.size/\∀ j,a9W row j->¬ E.has r j q) h1 hM (hw k (jk ..)) hv1 (fun q hq=>⟨hq.1.1,fun j _=>sQ hq r j⟩) (fun r' ver e j g hg=>⟨hM.lt hg,fun j' _ hh=>by
   have:=(hM.inj _ _ _ _ _ hg hh).1
   subst e
   simp only[b6z] at hc
   split at hc
   ·cases hc
   ·rename_i hne;exact hne (by simpa using this)⟩) (fun r' ver i e g hg=>⟨hM.lt hg,fun j' hj hh=>by
   obtain⟨e1,e2⟩:=hM.inj _ _ _ _ _ hg hh
   subst e
   simp only[b6z] at hc
   split at hc
   ·cases row with
    | none=>cases hc
    | some i0 =>
     simp only[Option.map_some,ah] at hc
     subst hc
     have hj:j'=i0+1:=hj
     have:=hvc.1
     omega
   ·rename_i hne;exact hne (by simpa using e1)⟩)
  exact⟨_,vs,rfl,⟨cs,by unfold Ty.toV;rw[wW _ _ _ hq],yK _ _ _ hq cs _ hr hva⟩,a3t hM h2 hvb (fun k hk=>hw k (jf _ hk)) hvs⟩
theorem XR {g:FuncId} {k:LK} {args res:List Ty} {pre:k.ty.den->(nest args).den->Prop} {out:k.ty.den->(nest args).den->k.ty.den} {fn:k.ty.den->(nest args).den->(nest res).den} (hN:NOk P g (.chg k args res pre out fn)) (hf:k.el.free=true) (hM:Mem E ρ W w) {k0:K} {r:Nat} {row:Option Nat} {x:k.ty.den} {back:k.ty.den->Res} (hl:a5S ρ k k0=some (r,row,x,back)) (hw:k0.wf ρ) {v0:Value} (hk:k0.holds E ρ w v0)
  {F:Nat->Prop} (hF2:∀ q,F q->q<w.heap.size/\∀ j,a9W row j->¬ E.has r j q) {vs:List Value} {y:(nest args).den} (ht:jT F w args vs y) (hres:res.all Ty.free=true\/∀ q,F q->fz w E q) (hp:pre x y) :
  Calls P g (v0::vs).toArray w (fun e w'=>∃ v E',e=.returned v/\Mem E' (bT ρ r (back (out x y))) W w'/\Ext E ρ w E' (bT ρ r (back (out x y))) w'/\rF (fz w' E') w' res v (fn x y)):=by
 cases k with
 | row e t =>
  cases k0
  case own r0 ver =>
   have hl:PZ e t r0 ver (ρ r0)=some (r,row,x,back):=hl
   unfold PZ at hl
   split at hl<;>first|(cases hl;done)|skip
   rename_i e' t' xs v' hr
   split at hl<;>first|(cases hl;done)|skip
   rename_i ys hc
   split at hl<;>first|(cases hl;done)|skip
   rename_i hb
   simp only[ak,ji] at hb
   obtain⟨rfl,hb⟩:=hb
   cases hl
   obtain⟨e9,hc⟩:=fC hc
   simp only[Ty.list.injEq] at e9
   subst e9
   have hc:xs=ys:=hc
   subst hc
   have hv:v0=E.sl r:=hk (by rw[hr];exact hb.symm)
   subst hv
   exact XU (k:=.row e' t') hN hf hM (v':=v') (v'':=v') hr (aj _) (fun _ _ _ e=>by cases e) (fun _ _ _=>rfl) (fun q hq=>⟨(hF2 q hq).1,fun j=>(hF2 q hq).2 j trivial⟩) ht hres hp
  case mrow r0 ver i =>
   have hl:PY e t r0 ver i (ρ r0)=some (r,row,x,back):=hl
   unfold PY at hl
   split at hl<;>first|(cases hl;done)|skip
   rename_i e1 e' t' ids xss v' hr
   split at hl<;>first|(cases hl;done)|skip
   rename_i yss hc
   split at hl<;>first|(cases hl;done)|skip
   rename_i hb
   simp only[ak,ji] at hb
   obtain⟨rfl,rfl⟩:=hb
   cases hl
   obtain⟨e9,hc⟩:=fC hc
   simp only[Ty.list.injEq] at e9
   subst e9
   have hc:xss=yss:=hc
   subst hc
   have hv:v0=E.inn r i:=hk (by rw[hr];rfl)
   subst hv
   have hi:=hw.2 (by rw[hr];rfl)
   rw[hr] at hi
   exact b3y hN hf hM hr hi (fun q hq=>⟨(hF2 q hq).1,(hF2 q hq).2 _ rfl⟩) ht hres hp
  all_goals
   have hl:none=some (r,row,x,back):=hl
   cases hl
 | mat e e2 t =>
  cases k0
  case own r0 ver =>
   have hl:PX e e2 t r0 ver (ρ r0)=some (r,row,x,back):=hl
   unfold PX at hl
   split at hl<;>first|(cases hl;done)|skip
   rename_i e' e2' t' xss v' hr
   split at hl<;>first|(cases hl;done)|skip
   rename_i yss hc
   split at hl<;>first|(cases hl;done)|skip
   rename_i hb
   simp only[ak,ji] at hb
   obtain⟨⟨rfl,rfl⟩,hb⟩:=hb
   cases hl
   obtain⟨e9,hc⟩:=fC hc
   simp only[Ty.list.injEq] at e9
   subst e9
   have hc:xss=yss:=hc
   subst hc
   have hv:v0=E.sl r:=hk (by rw[hr];exact hb.symm)
   subst hv
   exact XU (k:=.mat e' e2' t') hN hf hM (v':=v') (v'':=v'+1) hr (Nat.le_succ _) (fun _ _ _ _=>Nat.lt_succ_self _) (fun _ _ e=>by cases e) (fun q hq=>⟨(hF2 q hq).1,fun j=>(hF2 q hq).2 j trivial⟩) ht hres hp
  all_goals
   have hl:none=some (r,row,x,back):=hl
   cases hl
theorem WT {d:Option Nat} {g:FuncId} {ks:List K} {vs:List Value} {Q:Ending->World->Prop}:∀ {cs:List AO},(∀ c ∈ cs,NOk P g c)->∀ {vc:List Prop} {kk:K} {l:List (Nat × Res)},BL ρ d ks cs=some (vc,kk,l)->bY vc->Mem E ρ W w->(∀ k ∈ ks,k.wf ρ)->lY (fun k v=>K.holds E ρ w k v) ks vs ->
  (∀ v w' E',Mem E' (after ρ l) W w'->Ext E ρ w E' (after ρ l) w'->kk.wf (after ρ l)->kk.holds E' (after ρ l) w' v->Q (.returned v) w')->Calls P g vs.toArray w Q
 | [],_,vc,kk,l,h,_,_,_,_,_=>by simp[BL] at h
 | c::cs,hN,vc,kk,l,h,hv,hM,hw,hk,hq=>by
  simp only[BL] at h
  split at h
  ·rename_i a ha
   simp only[ah] at h
   subst h
   have hc:=hN c (jk ..)
   cases c with
   | mk k args pre made =>
    simp only[GU] at ha
    split at ha<;>first|(cases ha;done)|skip
    rename_i _ r
    split at ha<;>first|(cases ha;done)|skip
    rename_i hb
    simp only[ak] at hb
    split at ha<;>first|(cases ha;done)|skip
    rename_i vc1 y hva
    simp only[ah,dh] at ha
    obtain⟨rfl,rfl,rfl⟩:=ha
    obtain⟨hv1,hp,_⟩:=bW.1 hv
    refine(b3v hc hb.2 hM hb.1 (EC hva hv1 hM hw hk) hp).mono ?_
    rintro e w' ⟨v,E',rfl,n1,n2,n3⟩
    refine hq v w' E' n1 n2 ?_ (fun _=>n3)
    show Res.fJ 0 (bT ρ r _ r)
    rw[aG]
    cases k<;>exact aj _
   | chg k args res pre out fn =>
    simp only[GU] at ha
    split at ha<;>first|(cases ha;done)|skip
    rename_i k0 ks'
    cases hk
    rename_i v0 vs' hk0 hks
    split at ha<;>first|(cases ha;done)|skip
    rename_i r row x back hl
    split at ha<;>first|(cases ha;done)|skip
    rename_i hfr
    have hw0:=hw k0 (jk ..)
    have hws:∀ k ∈ ks',k.wf ρ:=fun k h=>hw k (jf _ h)
    split at ha
    ·rename_i vc1 y hva
     simp only[ah,dh] at ha
     obtain⟨rfl,rfl,rfl⟩:=ha
     obtain⟨hv1,hp,_⟩:=bW.1 hv
     simp only[Option.bind_eq_some_iff] at hva
     obtain⟨⟨vc2,y2,l2⟩,hva,h9⟩:=hva
     cases l2 with
     | cons _ _=>cases h9
     | nil =>
      simp only[noL,ah,dh] at h9
      obtain⟨rfl,rfl⟩:=h9
      obtain⟨E1,m1,m2,m3⟩:=QW hva hv1 hM hws hks
      have m1:Mem E1 ρ W w:=m1
      have m2:Ext E ρ w E1 ρ w:=m2
      refine(XR hc hfr m1 hl hw0 (m2.holds _ _ hw0 hk0) (fun q hq=>⟨hq.1.1,fun j _=>sQ hq r j⟩) m3 (.inr fun q h=>h) hp).mono ?_
      rintro e w' ⟨v,E',rfl,n1,n2,n3⟩
      obtain⟨r1,r2⟩:=QG (E:=E') (ρ:=bT ρ r (back (out x y2))) (w:=w') (F:=fz w' E') (fun q hq=>hq) n3
      exact hq v w' E' n1 (m2.trans n2) r2 r1
    ·split at ha<;>first|(cases ha;done)|skip
     rename_i hrf
     split at ha<;>first|(cases ha;done)|skip
     rename_i vc1 y hva
     simp only[ah,dh] at ha
     obtain⟨rfl,rfl,rfl⟩:=ha
     obtain⟨hv1,hp,_⟩:=bW.1 hv
     refine(XR hc hfr hM hl hw0 hk0 (fun q hq=>hq) (a3t hM hva hv1 hws hks) (.inl hrf) hp).mono ?_
     rintro e w' ⟨v,E',rfl,n1,n2,n3⟩
     obtain⟨r1,r2⟩:=QG (E:=E') (ρ:=bT ρ r (back (out x y))) (w:=w') (F:=fz w' E') (fun q hq=>hq) n3
     exact hq v w' E' n1 n2 r2 r1
  ·exact WT (fun c hc=>hN c (jf _ hc)) h hv hM hw hk hq
theorem a6X {T:Told} (hN:∀ g,∀ c ∈ T.nc g,NOk P g c) {k:Operand->K} {a:Act} {o:Oper} {vc:List Prop} {kk:K} {l:List (Nat × Res)} (h:BM P T ρ k o.dst o.op=some (vc,kk,l)) (hv:bY vc) (hM:Mem E ρ W w) (hw:∀ x,(k x).wf ρ) (hk:∀ x,(k x).holds E ρ w (a.eval x)):EI P E ρ W w o a kk l:=by
 cases ho:o.op<;>rw[ho] at h<;>try (simp[BM] at h;done)
 case call c =>
  obtain⟨cl,xs,ts⟩:=c
  cases cl<;>try (simp[BM] at h;done)
  rename_i f
  simp only[BM] at h
  have a3T:=hk f
  split at h<;>try(cases h;done)
  rename_i g t cx hkf
  split at h<;>try(cases h;done)
  rename_i he
  simp only[ak] at he
  rw[hkf] at a3T
  obtain⟨cs,hfv,ds,hcs,hrep⟩:=a3T
  have hfv:a.eval f=.func (.func g) #[] ds.toArray:=by rw[hfv,hcs];rfl
  obtain⟨hks,hws⟩:=ZY (E:=E) (ρ:=ρ) t cx ds he.2 hrep (fun q h=>h)
  have ha:lY (fun k v=>K.holds E ρ w k v) (xs.toList.map k++a1x t cx) (xs.toList.map a.eval++ds):=by
   generalize xs.toList=cl
   induction cl with
   | nil=>exact hks
   | cons x xs ih=>exact .cons (hk x) ih
  intro next Q hn
  have hrun:(execOp a.eval o).run P w=.ok (.enter g ((xs.toList.map a.eval++ds).toArray)) w:=by
   have:(xs.map a.eval++ds.toArray)=(xs.toList.map a.eval++ds).toArray:=by apply Dl;simp
   simp only[execOp,ho,resolve,Deferred.ofValue,hfv,jc,Sem.run_pure,Result.andThen_ok,invoke]
   rw[<-this]
   simp only[Array.empty_append]
   exact XF he.1
  unfold Oper.wp
  rw[hrun,Oper.upon_enter]
  refine(WT (fun c hc=>hN g c hc) h hv hM (fun k9 hk9=>?_) ha (Q:=fun e w'=>∃ v,e=.returned v/\next (a.put o.dst v) w') (fun v w' E' m1 m2 m3 m4=>⟨v,rfl,hn v w' E' m1 m2 m3 m4⟩)).mono ?_
  ·rcases uq.1 hk9 with hk9|hk9
   ·obtain⟨q,_,rfl⟩:=ru.1 hk9;exact hw q
   ·exact hws k9 hk9
  ·rintro e w' ⟨v,rfl,h⟩
   exact h
theorem a9s {k:Operand->K} {a:Act} {o:Oper} {vc:List Prop} {kk:K} {l:List (Nat × Res)} (h:XI P ρ k o.op=some (vc,kk,l)) (hv:bY vc) (hM:Mem E ρ W w) (hw:∀ x,(k x).wf ρ) (hk:∀ x,(k x).holds E ρ w (a.eval x)):EI P E ρ W w o a kk l:=by
 unfold XI at h
 split at h<;>try(cases h;done)
 rename_i t s lo hi hop
 split at h<;>try(cases h;done)
 rename_i r v hks
 split at h<;>try(cases h;done)
 rename_i p l' hav
 split at h<;>try(cases h;done)
 rename_i vc' kk' hc
 simp only[ah,dh] at h
 obtain⟨rfl,rfl,rfl⟩:=h
 have hws:=hw (.tmp s)
 have hhs:=hk (.tmp s)
 rw[hks] at hws hhs
 obtain⟨E',m1,m2,m3⟩:=rO (t:=none) (k:=.own r v) hav hM hws hhs
 rw[<-hop] at hc
 obtain⟨⟨v',h1,h2⟩,h3⟩:=a1B (E:=E') (ρ:=after ρ l') (w:=w) (ev:=a.eval) hc hv (fun y=>by
  unfold c1m
  split
  ·split
   ·rename_i e;subst e;exact m3
   ·exact m2.holds _ _ (hw _) (hk _)
  ·exact m2.holds _ _ (hw _) (hk _))
 exact gB.steps ⟨.value v',v',w,E',h1,.inl rfl,m1,m2,h3,h2⟩
theorem YT {C:FuncId->List Ctr} (hC:∀ g,∀ c ∈ C g,aW P g c) {T:Told} (hN:∀ g,∀ c ∈ T.nc g,NOk P g c) {k:Operand->K} {a:Act} {o:Oper} {vc:List Prop} {kk:K} {l:List (Nat × Res)} (h:qG P C T ρ k o.dst o.op=some (vc,kk,l)) (hv:bY vc) (hM:Mem E ρ W w) (hw:∀ x,(k x).wf ρ) (hk:∀ x,(k x).holds E ρ w (a.eval x)) (hwf:∀ vc' kk',gI P k o.op=some (vc',kk')->kk'.wf ρ):EI P E ρ W w o a kk l:=by
 unfold qG at h
 split at h
 ·rename_i vc' kk' hp
  simp only[ah,dh] at h
  obtain⟨rfl,rfl,rfl⟩:=h
  obtain⟨v,h1,h2⟩:=a7O hp hv hk
  exact gB.steps ⟨.value v,v,w,E,h1,.inl rfl,hM,Ext.refl _ _ _,hwf _ _ hp,h2⟩
 ·split at h
  ·rename_i vc' kk' hp
   simp only[ah,dh] at h
   obtain⟨rfl,rfl,rfl⟩:=h
   obtain⟨⟨v,h1,h2⟩,h3⟩:=(CZ hp).elim (fun hp=>a3K (ρ:=ρ) hp hk) (fun hp=>(CZ hp).elim (fun hp=>b2P (ρ:=ρ) hp hk) (fun hp=>a1B (ρ:=ρ) hp hv hk))
   exact gB.steps ⟨.value v,v,w,E,h1,.inl rfl,hM,Ext.refl _ _ _,h3,h2⟩
  ·split at h
   ·rename_i r hb
    simp only[ah] at h
    subst h
    exact(a8D hb hM hw hk).steps
   ·split at h
    ·rename_i vc' kk' hp
     simp only[ah,dh] at h
     obtain⟨rfl,rfl,rfl⟩:=h
     obtain⟨⟨v,h1,h2⟩,h3⟩:=b3V hp hv hM hw hk
     exact gB.steps ⟨.value v,v,w,E,h1,.inl rfl,hM,Ext.refl _ _ _,h3,h2⟩
    ·split at h
     ·rename_i r hb
      simp only[ah] at h
      subst h
      exact(b4D hb hv hM hw hk).steps
     ·split at h
      ·rename_i r hb
       simp only[ah] at h
       subst h
       exact(b3w hb hv hM hw hk).steps
      ·split at h
       ·rename_i r hb
        simp only[ah] at h
        subst h
        exact(b1n hb hv hM hw hk).steps
       ·split at h
        ·rename_i r hb
         simp only[ah] at h
         subst h
         exact a9s hb hv hM hw hk
        ·split at h
         ·rename_i r hb
          simp only[ah] at h
          subst h
          exact a6X hN hb hv hM hw hk
         ·split at h
          ·rename_i r hb
           simp only[ah] at h
           subst h
           exact(a7g hb hv hM hw hk).steps
          ·exact a6Y hC h hv hM hw hk
end
end
section
set_option linter.unusedSimpArgs false
set_option linter.unusedVariables false
abbrev Gam:=List (Nat × K)
abbrev Rho:=List (Nat × Res)
def bP:Gam->Nat->K
 | [],_=>.any
 | (s,k)::G,q=>if q=s then k else bP G q
def aT:Rho->Nat->Res
 | [],_=>.none
 | (s,x)::R,q=>if q=s then x else aT R q
def b6y (r:Nat) (R:Rho):Rho:=R.filter fun p=>p.1 != r
theorem SS {r q:Nat} (h:q≠r):∀ (R:Rho),aT (b6y r R) q=aT R q
 | []=>rfl
 | (s,x)::R=>by
  unfold b6y
  rw[List.filter_cons]
  split
  ·simp only[aT]
   split
   ·rfl
   ·exact SS h R
  ·rename_i hs
   have hs:s=r:=by simpa using hs
   simp only[aT]
   rw[ig (by rw[hs];exact h)]
   exact SS h R
def aft (R:Rho):List (Nat × Res)->Rho
 | []=>R
 | q::l=>aft (q::b6y q.1 R) l
theorem SN:∀ (l:List (Nat × Res)) (R:Rho),aT (aft R l)=after (aT R) l
 | [],_=>rfl
 | (r,x)::l,R=>by
  rw[aft,SN l,after]
  congr 1
  funext q
  simp only[aT]
  unfold bT
  split
  ·rfl
  ·rename_i h;exact SS h R
def opK (G:Nat->K):Operand->K
 | .tmp s=>G s
 | .const v=>yL v
 | .func f=>.val (.clo f .unit) ()
 | .global _=>.any
def unW:K->K
 | .when _ k=>k
 | k=>k
def a8W:K->List Prop
 | .when b _=>[b=true]
 | _=>[]
def tmpsOf (op:Op):List Nat:=op.operands.toList.filterMap fun x=>match x with
 | .tmp s=>some s
 | _=>none
def kW (ts:List Nat) (G:Nat->K) (s:Nat):K:=if ts.contains s then G s else .any
def keepW (op:Op) (s:Nat):Bool:=match op with
 | .pick (.tmp c) _ _=>c != s
 | _=>false
def unG (op:Op) (G:Nat->K) (s:Nat):K:=if keepW op s then G s else unW (G s)
def NV (op:Op) (s:Nat) (k:K):List Prop:=if keepW op s then [] else a8W k
structure Book where
 P:Program
 C:FuncId->List Ctr
 T:Told
 N:Nat
 keep:Nat->Bool
def Book.Ok (B:Book):Prop:=(∀ g,∀ c ∈ B.C g,aW B.P g c)/\∀ g,∀ c ∈ B.T.nc g,NOk B.P g c
def eqb (c b:Bool):Bool:=c==b
def a9d (B:Book):Option Nat->Bool
 | some d=>decide (d<B.N)&&!B.keep d
 | none=>true
def a9y (g:Bool):List Prop->List Prop
 | []=>[]
 | p::ps=>[g=true->bY (p::ps)]
theorem a7q {g:Bool} {l:List Prop} (h:bY (a9y g l)) (hg:g=true):bY l:=by
 cases l with
 | nil=>trivial
 | cons p ps=>exact h.1 hg
def gdK (b:Bool):K->Option Bool
 | .val .bool c=>some (eqb c b)
 | .when r (.val .bool c)=>some (r&&eqb c b)
 | _=>none
def xW (B:Book) (G:Nat->K) (ρ:Nat->Res) (ops:Array Oper) (o:Oper):MK:=if a9d B o.dst then (match o.guard with
 | none=>qG B.P B.C B.T ρ (opK (kW (tmpsOf o.op) G)) o.dst o.op
 | some (j,b)=>match (ops[j]?).bind (·.dst) with
  | some s=>match gdK b (G s) with
   | some g=>match qG B.P B.C B.T ρ (opK (kW (tmpsOf o.op) (unG o.op G))) o.dst o.op with
    | some (vc,k,[])=>some (a9y g ((tmpsOf o.op).flatMap (fun s=>NV o.op s (G s))++vc),.when g k,[])
    | _=>none
   | none=>none
  | none=>none) else none
def a1g (d:Option Nat) (k:K):List (Nat × K):=match d with
 | some d=>[(d,k)]
 | none=>[]
def jI {α:Type} (f:Nat->α):List (Nat × α)->Nat->α
 | []=>f
 | (r,x)::l=>jI (bT f r x) l
theorem rU:∀ (l:List (Nat × Res)) (ρ:Nat->Res),after ρ l=jI ρ l
 | [],_=>rfl
 | (_,_)::l,_=>rU l _
def b3R (d:Option Nat) (k:K) (G:Gam):Gam:=match d with
 | some d=>(d,k)::G
 | none=>G
theorem xB (G:Gam) (d:Option Nat) (k:K):bP (b3R d k G)=jI (bP G) (a1g d k):=by
 cases d with
 | none=>rfl
 | some d =>
  funext q
  show bP ((d,k)::G) q=bT (bP G) d k q
  simp only[bP]
  unfold bT
  split
  ·rfl
  ·rfl
structure Fits (E:Env) (ρ:Nat->Res) (w:World) (B:Book) (a:Act) (G:Nat->K):Prop where
 size:a.tmps.size=B.N
 defers:a.defers=[]
 wf:∀ s,(G s).wf ρ
 holds:∀ s,(G s).holds E ρ w (a.eval (.tmp s))
 par:∀ s,B.keep s=true->a.eval (.tmp s)=E.par s
section
variable {B:Book} {E:Env} {ρ:Nat->Res} {W w:World} {G:Nat->K} {a:Act}
theorem b0N {c:Bool} {ka kb k:K} {vc:List Prop} (h:mQ c ka kb=some (vc,k)):k.wf ρ:=by
 cases ka<;>try (simp[mQ] at h;done)
 case val t x =>
  cases kb<;>try (simp[mQ] at h;done)
  case val t' y =>
   simp only[mQ,je,dh] at h
   obtain⟨y',h1,rfl,rfl⟩:=h
   trivial
  case when b kb =>
   cases kb<;>try (simp[mQ] at h;done)
   case val t' y =>
    simp only[mQ,je,dh] at h
    obtain⟨y',h1,rfl,rfl⟩:=h
    trivial
 case when b ka =>
  cases ka<;>try (simp[mQ] at h;done)
  case val t x =>
   cases kb<;>try (simp[mQ] at h;done)
   case val t' y =>
    simp only[mQ,je,dh] at h
    obtain⟨y',h1,rfl,rfl⟩:=h
    trivial
   case when b' kb =>
    cases kb<;>try (simp[mQ] at h;done)
    case val t' y =>
     simp only[mQ,je,dh] at h
     obtain⟨y',h1,rfl,rfl⟩:=h
     trivial
def K.isVal:K->Bool
 | .val _ _=>true
 | _=>false
theorem KE {k:K} (h:k.isVal=true):k.wf ρ:=by cases k<;>simp_all [K.isVal];trivial
theorem a9Z {op:BinOp} {k:IntKind} {a b:Int} {vc:List Prop} {kk:K} (h:a9Y op k a b=some (vc,kk)):kk.isVal=true:=by
 cases op<;>simp only[a9Y,ah,dh] at h<;>first|(cases h;done)|(obtain⟨_,rfl⟩:=h;rfl)
theorem b2N {op:BinOp} {a b:Bool} {vc:List Prop} {kk:K} (h:eqB op a b=some (vc,kk)):kk.isVal=true:=by
 cases op<;>simp only[eqB,ah,dh] at h<;>first|(cases h;done)|(obtain⟨_,rfl⟩:=h;rfl)
theorem SB {r:Bool} {P:Program} {s:TypeId} {i:Nat} {ty:Ty} {y:ty.den} {vc:List Prop} {kk:K} (h:BR r P s i ty y=some (vc,kk)):kk.isVal=true:=by
 unfold BR at h
 split at h<;>try(cases h;done)
 split at h<;>try(cases h;done)
 simp only[ah,dh] at h
 obtain⟨_,rfl⟩:=h
 cases r<;>rfl
theorem YG {P:Program} {k:Operand->K} {op:Op} {vc:List Prop} {kk:K} (h:gI P k op=some (vc,kk)) (hw:∀ x,(k x).wf ρ):kk.wf ρ:=by
 cases op<;>try (simp[gI] at h;done)
 case move x=>simp only[gI,ah,dh] at h;rw[<-h.2];exact hw x
 case assign x=>simp only[gI,ah,dh] at h;rw[<-h.2];exact hw x
 case pick c a b =>
  simp only[gI] at h
  split at h<;>first|(cases h;done)|exact b0N h
 case call c =>
  obtain⟨cl,xs,ts⟩:=c
  cases cl<;>try (simp[gI] at h;done)
  rename_i bi
  cases bi<;>try (simp[gI] at h;done)
  simp only[gI] at h
  (repeat' split at h)<;>first|(cases h;done)|(simp only[MW,b6j,ah,dh] at h;rw[<-h.2];trivial)
 case unOp op t x =>
  cases op<;>simp only[gI] at h<;>try(cases h;done)
  all_goals (split at h<;>first|(cases h;done)|(simp only[b6w,b6t,ZB,ah,dh] at h;rw[<-h.2];trivial))
 case binOp op t x y yt =>
  simp only[gI] at h
  split at h<;>try(cases h;done)
  ·split at h<;>first|(cases h;done)|exact KE (a9Z h)
  ·split at h<;>first|(cases h;done)|exact KE (b2N h)
  ·split at h<;>first|(cases h;done)|(rename_i hb;cases op<;>simp only[b3D,ah,dh] at h<;>first|(cases h;done)|(rw[<-h.2];trivial))
 case extract x i =>
  simp only[gI] at h
  split at h<;>try(cases h;done)
  ·split at h<;>first|(cases h;done)|(simp only[ah,dh] at h;rw[<-h.2];trivial)
  ·rename_i ks hkx
   have hwx:=hw x
   rw[hkx] at hwx
   split at h<;>first|(cases h;done)|(simp only[ah,dh] at h;rw[<-h.2])
   rename_i e
   exact a0w.1 (hwx _ (Ci e))
 case field s x i =>
  simp only[gI] at h
  split at h<;>first|(cases h;done)|exact KE (SB h)
 case fieldAddr s x i =>
  simp only[gI] at h
  split at h<;>first|(cases h;done)|exact KE (SB h)
 all_goals
  simp only[gI] at h
  (repeat' split at h)<;>first|(cases h;done)|(simp only[JO,a5y,b3f,ZB,ah,dh] at h;rw[<-h.2];trivial)
theorem a7f (v:Value):(yL v).wf ρ:=by unfold yL;split<;>trivial
theorem UA (hf:Fits E ρ w B a G):(∀ x,(opK G x).wf ρ)/\∀ x,(opK G x).holds E ρ w (a.eval x):=by
 constructor
 ·intro x
  cases x with
  | tmp s=>exact hf.wf s
  | const v=>exact a7f v
  | func f=>trivial
  | global g=>trivial
 ·intro x
  cases x with
  | tmp s=>exact hf.holds s
  | const v=>exact a7e v
  | func f=>exact⟨[.func (.func f) #[] #[]],rfl,[],rfl,rfl⟩
  | global g=>trivial
theorem Fits.put {E':Env} {ρ':Nat->Res} {w':World} {o:Oper} {k:K} {v:Value} (hf:Fits E ρ w B a G) (hx:Ext E ρ w E' ρ' w') (hd:a9d B o.dst=true) (hw:k.wf ρ') (hk:k.holds E' ρ' w' v):Fits E' ρ' w' B (a.put o.dst v) (jI G (a1g o.dst k)):=by
 cases hod:o.dst with
 | none=>exact⟨hf.size,hf.defers,fun s=>hx.wf _ (hf.wf s),fun s=>hx.holds _ _ (hf.wf s) (hf.holds s),fun s hs=>by rw[hx.par];exact hf.par s hs⟩
 | some d =>
  rw[hod] at hd
  have hd:d<B.N/\B.keep d=false:=by simpa [a9d] using hd
  obtain⟨hd,hkd⟩:=hd
  refine⟨by simpa [Act.put] using hf.size,hf.defers,fun s=>?_,fun s=>?_,fun s hs=>?_⟩
  ·show K.wf ρ' (bT G d k s)
   unfold bT
   split
   ·exact hw
   ·exact hx.wf _ (hf.wf s)
  ·show K.holds E' ρ' w' (bT G d k s) _
   unfold bT
   split
   ·rename_i e
    subst e
    have:(a.put (some s) v).eval (.tmp s)=v:=by
     have hs9:=hf.size
     have hs8:s<a.tmps.size:=by rw[hs9];exact hd
     simp[Act.put,Act.eval,jw,hs8]
    rw[this];exact hk
   ·rename_i e
    have:(a.put (some d) v).eval (.tmp s)=a.eval (.tmp s):=by
     simp[Act.put,Act.eval,jw,Array.getElem?_setIfInBounds,show ¬ d=s from fun e'=>e e'.symm]
    rw[this];exact hx.holds _ _ (hf.wf s) (hf.holds s)
  ·have e:¬ d=s:=fun e=>by subst e;rw[hkd] at hs;cases hs
   have:(a.put (some d) v).eval (.tmp s)=a.eval (.tmp s):=by
    simp[Act.put,Act.eval,jw,Array.getElem?_setIfInBounds,e]
   rw[this,hx.par];exact hf.par s hs
theorem b9P {k:K} (h:k.wf ρ) (hc:bY (a8W k)):(unW k).wf ρ:=by cases k<;>first|exact h|exact h hc.1
theorem a8m {k:K} {v:Value} (h:k.holds E ρ w v) (hc:bY (a8W k)):(unW k).holds E ρ w v:=by cases k<;>first|exact h|exact h.1 hc.1
theorem QT {l:List Prop} (h:bY l) {p:Prop} (hp:p ∈ l):p:=by
 induction l with
 | nil=>cases hp
 | cons q l ih =>
  rcases um.1 hp with rfl|hp
  ·exact h.1
  ·exact ih h.2 hp
theorem LQ {f:Nat->List Prop}:∀ {l:List Nat} {s:Nat},bY (l.flatMap f)->s ∈ l->bY (f s)
 | x::l,s,h,hs=>by
  rw[List.flatMap_cons] at h
  obtain⟨h1,h2⟩:=bW.1 h
  rcases um.1 hs with rfl|hs
  ·exact h1
  ·exact LQ h2 hs
theorem a7L {ts:List Nat} (hf:Fits E ρ w B a G):Fits E ρ w B a (kW ts G):=by
 refine⟨hf.size,hf.defers,fun s=>?_,fun s=>?_,hf.par⟩
 ·unfold kW;split
  ·exact hf.wf s
  ·trivial
 ·unfold kW;split
  ·exact hf.holds s
  ·trivial
theorem a4l {ts:List Nat} {op:Op} (hf:Fits E ρ w B a G) (hc:bY (ts.flatMap fun s=>NV op s (G s))):Fits E ρ w B a (kW ts (unG op G)):=by
 refine⟨hf.size,hf.defers,fun s=>?_,fun s=>?_,hf.par⟩
 ·unfold kW;split
  ·rename_i hs
   have hc:=LQ hc (show s ∈ ts by simpa using hs)
   unfold unG;unfold NV at hc
   split
   ·exact hf.wf s
   ·rename_i hk;rw[ig hk] at hc;exact b9P (hf.wf s) hc
  ·trivial
 ·unfold kW;split
  ·rename_i hs
   have hc:=LQ hc (show s ∈ ts by simpa using hs)
   unfold unG;unfold NV at hc
   split
   ·exact hf.holds s
   ·rename_i hk;rw[ig hk] at hc;exact a8m (hf.holds s) hc
  ·trivial
theorem a2E (hB:B.Ok) {ops:Array Oper} {o:Oper} {vc:List Prop} {kk:K} {l:List (Nat × Res)} (h:xW B G ρ ops o=some (vc,kk,l)) (hv:bY vc) (hM:Mem E ρ W w) (hf:Fits E ρ w B a G)
  {next:Act->World->Prop} {Q:Exit->Act->World->Prop} (hn:∀ v w' E',Mem E' (after ρ l) W w'->Ext E ρ w E' (after ρ l) w'->kk.wf (after ρ l)->kk.holds E' (after ρ l) w' v->next (a.put o.dst v) w') :
  if Region.wanted o (yielded ops a.tmps) then o.wp B.P a w next Q\/(o.asks B.P a w/\LetsOut Q) else next (a.put o.dst undef) w:=by
 unfold xW at h
 split at h<;>try(cases h;done)
 rename_i hd
 cases hg:o.guard with
 | none =>
  simp only[hg] at h
  obtain⟨h1,h2⟩:=UA (a7L (ts:=tmpsOf o.op) hf)
  have hw:Region.wanted o (yielded ops a.tmps)=true:=by simp[Region.wanted,hg]
  rw[gy hw]
  exact .inl (YT hB.1 hB.2 h hv hM h1 h2 (fun vc' kk' hp=>YG hp h1) next Q hn)
 | some jb =>
  obtain⟨j,b⟩:=jb
  simp only[hg] at h
  split at h<;>try(cases h;done)
  rename_i s hs
  split at h<;>try(cases h;done)
  rename_i g hks
  split at h<;>try(cases h;done)
  rename_i vc1 k1 hst
  simp only[ah,dh] at h
  obtain⟨rfl,rfl,rfl⟩:=h
  have hwn:Region.wanted o (yielded ops a.tmps)=g:=by
   have hsv:=hf.holds s
   have hv1:∀ c:Bool,a.tmps.getD s undef=.bool c->Region.wanted o (yielded ops a.tmps)=eqb c b:=fun c h1=>by
    have ht:a.tmps[s]?=some (.bool c):=by
     rw[jw] at h1
     cases h2:a.tmps[s]? with
     | none=>rw[h2] at h1;cases h1
     | some v=>rw[h2] at h1;exact xu some h1
    simp[Region.wanted,hg,yielded,hs,ht]
    rfl
   have hv2:a.tmps.getD s undef=undef->Region.wanted o (yielded ops a.tmps)=false:=fun h1=>by
    rw[jw] at h1
    cases h2:a.tmps[s]? with
    | none=>simp[Region.wanted,hg,yielded,hs,h2]
    | some v =>
     rw[h2] at h1
     have h1:v=undef:=h1
     subst h1
     simp[Region.wanted,hg,yielded,hs,h2]
     try first|rfl|(intro e;cases e;done)|(simp[undef];done)|(unfold undef;simp;done)
   unfold gdK at hks
   split at hks<;>first|(cases hks;done)|skip
   ·rename_i c hk
    rw[hk] at hsv
    have hsv:=sK hsv
    simp only[ah] at hks
    rw[<-hks];exact hv1 c hsv
   ·rename_i r c hk
    rw[hk] at hsv
    simp only[ah] at hks
    rw[<-hks]
    cases r with
    | true=>have hsv:=sK (hsv.1 rfl);exact hv1 c hsv
    | false=>exact hv2 (hsv.2 rfl)
  rw[hwn]
  by_cases hcb:g=true
  ·rw[gy hcb]
   obtain⟨hv1,hv2⟩:=bW.1 (a7q hv hcb)
   obtain⟨h1,h2⟩:=UA (a4l hf hv1)
   exact .inl (YT hB.1 hB.2 hst hv2 hM h1 h2 (fun vc' kk' hp=>YG hp h1) next Q (fun v w' E' m1 m2 m3 m4=>hn v w' E' m1 m2 (fun _=>m3) ⟨fun _=>m4,fun e=>by rw[hcb] at e;cases e⟩))
  ·rw[ig hcb]
   exact hn undef w E hM (Ext.refl _ _ _) (fun e=>absurd e hcb) ⟨fun e=>absurd e hcb,fun _=>rfl⟩
def zK (B:Book) (ops:Array Oper):List Oper->Gam->Rho->Option (List Prop × Gam × Rho)
 | [],G,R=>some ([],G,R)
 | o::rest,G,R=>match xW B (bP G) (aT R) ops o with
  | some (vc,k,l)=>match zK B ops rest (b3R o.dst k G) (aft R l) with
   | some (vc',G',R')=>some (vc++vc',G',R')
   | none=>none
  | none=>none
theorem YD {ops:Array Oper} {o:Oper} {x:List Prop × K × List (Nat × Res)} (h:xW B G ρ ops o=some x):a9d B o.dst=true:=by
 unfold xW at h
 split at h
 ·assumption
 ·cases h
theorem YP (hB:B.Ok) {ops:Array Oper} {Q:Exit->Act->World->Prop}:∀ {l:List Oper} {G:Gam} {R:Rho} {E:Env} {w:World} {a:Act} {vc:List Prop} {G':Gam} {R':Rho},zK B ops l G R=some (vc,G',R')->bY vc->Mem E (aT R) W w->Fits E (aT R) w B a (bP G) ->
  (∀ E' a' w',E'.fix=E.fix->Mem E' (aT R') W w'->Fits E' (aT R') w' B a' (bP G')->Q .normal a' w')->wpList B.P ops Q l a w
 | [],G,R,E,w,a,vc,G',R',h,hv,hM,hf,hq=>by
  simp only[zK,ah,dh] at h
  obtain⟨_,rfl,rfl⟩:=h
  exact hq E a w rfl hM hf
 | o::rest,G,R,E,w,a,vc,G',R',h,hv,hM,hf,hq=>by
  simp only[zK] at h
  split at h<;>try(cases h;done)
  rename_i vc1 k l1 h1
  split at h<;>try(cases h;done)
  rename_i vc2 G2 R2 h2
  simp only[ah,dh] at h
  obtain⟨rfl,rfl,rfl⟩:=h
  obtain⟨hv1,hv2⟩:=bW.1 hv
  exact a2E hB h1 hv1 hM hf (fun v w' E' m1 m2 m3 m4=>by
   rw[<-SN] at m1 m2 m3 m4
   exact YP hB h2 hv2 m1 (by rw[xB];exact hf.put m2 (YD h1) m3 m4) (fun E2 a2 w2 hb2=>hq E2 a2 w2 (hb2.trans m2.fix)))
end
end
end Go.Proofs.YtgplhbhfdgempaaGreat
