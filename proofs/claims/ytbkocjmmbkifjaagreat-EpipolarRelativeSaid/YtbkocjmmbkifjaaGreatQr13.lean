/-
  Lemmas for the theorem vrelative28_holds, part 13 of 35.
-/
import Derived.Test.YtbkocjmmbkifjaaGreatQr12
namespace Go.Proofs.YtbkocjmmbkifjaaGreat
open Go Go.RowKit
section
set_option linter.unusedSimpArgs false
set_option linter.unusedVariables false
def BL (s:Value) (I:Nat->Value) (q:Nat):Prop:=bK s=some q\/∃ i,bK (I i)=some q
def Env.of (F:Nat->Prop) (w:World) (s:Value) (I:Nat->Value):Env:=⟨fun r=>if r=0 then bK s else none,fun r=>if r=0 then s else undef,fun q=>F q\/BL s I q\/w.heap.size<=q,fun r i=>if r=0 then I i else undef,BL s I,fun r=>if r=0 then s else undef⟩
def a3q (x:Res) (r:Nat):Res:=if r=0 then x else .none
def NOk (P:Program) (f:FuncId):lK->Prop
 | @lK.mk k args pre made _=>∀ (F:Nat->Prop) (w:World) (vs:List Value) (y:(nest args).den),(∀ q,F q->q<w.heap.size)->jE F w args vs y->pre y ->
  Calls P f vs.toArray w fun e w'=>∃ v E ρ q v0,e=.returned v/\Mem E ρ w w'/\(∀ q,¬ E.qF q)/\ρ q=k.res (made y) v0/\v=E.sl q
 | @lK.chg k args res pre out fn _=>∀ (F:Nat->Prop) (w:World) (s:Value) (I:Nat->Value) (vs:List Value) (x:k.ty.den) (y:(nest args).den),(∀ q,F q->q<w.heap.size/\¬ BL s I q)->Mem (Env.of F w s I) (a3q (k.res x 0)) w w->jE F w args vs y->pre x y ->
  Calls P f (s::vs).toArray w fun e w'=>∃ v E ρ v0,e=.returned v/\Mem E ρ w w'/\E.base=(Env.of F w s I).base/\E.qF=BL s I/\ρ 0=k.res (out x y) v0/\E.sl 0=s/\rF (fz w' E) w' res v (fn x y)
def QV (e:TypeId) (t:Ty) (r v:Nat):Res->Option (Nat × Option Nat × List t.den × (List t.den->Res))
 | .row e' t' xs v'=>match gK (.list t') (.list t) xs with
  | some ys=>if e'==e&&gv v==gv v' then some (r,none,ys,fun o=>.row e t o v') else none
  | none=>none
 | _=>none
def QU (e:TypeId) (t:Ty) (r v i:Nat):Res->Option (Nat × Option Nat × List t.den × (List t.den->Res))
 | .mat e1 e' t' ids xss v'=>match gK (.list (.list t')) (.list (.list t)) xss with
  | some yss=>if e'==e&&v==v' then some (r,some i,rowAt (α:=t.den) yss i,fun o=>.mat e1 e t ids (List.set (α:=List t.den) yss i o) v') else none
  | none=>none
 | _=>none
def QT (e e2:TypeId) (t:Ty) (r v:Nat):Res->Option (Nat × Option Nat × List (List t.den) × (List (List t.den)->Res))
 | .mat e' e2' t' none xss v'=>match gK (.list (.list t')) (.list (.list t)) xss with
  | some yss=>if e'==e&&e2'==e2&&gv v==gv v' then some (r,none,yss,fun o=>.mat e e2 t none o (v'+1)) else none
  | none=>none
 | _=>none
def a6z (ρ:Nat->Res):(k:LK)->K->Option (Nat × Option Nat × k.ty.den × (k.ty.den->Res))
 | .row e t,.own r v=>QV e t r v (ρ r)
 | .row e t,.mrow r v i=>QU e t r v i (ρ r)
 | .mat e e2 t,.own r v=>QT e e2 t r v (ρ r)
 | _,_=>none
def c0u (r:Nat) (row:Option Nat):K->Option (List Cd)
 | .val _ _=>some []
 | .nil=>some []
 | .own r' _=>if r'==r then none else some []
 | .mrow r' _ i=>if r'==r then row.map (fun i0=>[i≠i0]) else some []
 | _=>none
def LV (ρ:Nat->Res) (r:Nat) (row:Option Nat):(ts:List Ty)->List K->Option (List Cd × (nest ts).den)
 | [],[]=>some ([],())
 | t::ts,k::ks=>match c0u r row k,vW ρ (some t) k with
  | some c,some p=>match kN p.t t,LV ρ r row ts ks with
   | some q,some (vc,x)=>some (c++(q.c p.x++vc),(q.f p.x,x))
   | _,_=>none
  | _,_=>none
 | _,_=>none
def noL {α:Type}:List Cd × α × List (Nat × Res)->Option (List Cd × α)
 | (vc,y,[])=>some (vc,y)
 | _=>none
def GN (ρ:Nat->Res) (d:Option Nat) (ks:List K):lK->MK
 | @lK.mk k args pre made dec=>match d with
  | some r=>if (ρ r).isNone&&k.el.free then (match nY ρ args ks with
   | some (vc,y)=>some (vc++([pre y]:List Cd),.own r 0,[(r,k.res (made y) 0)])
   | none=>none) else none
  | none=>none
 | @lK.chg k args res pre out fn dec=>match ks with
  | k0::ks=>match a6z ρ k k0 with
   | some (r,row,x,back)=>if k.el.free then (match (zW ρ args ks).bind noL with
    | some (vc,y)=>some (vc++([pre x y]:List Cd),b3o res (fn x y),[(r,back (out x y))])
    | none=>if res.all Ty.free then (match LV ρ r row args ks with
     | some (vc,y)=>some (vc++([pre x y]:List Cd),b3o res (fn x y),[(r,back (out x y))])
     | none=>none) else none) else none
   | none=>none
  | []=>none
def zZ (ρ:Nat->Res) (d:Option Nat) (ks:List K):List lK->MK
 | []=>none
 | c::cs=>match GN ρ d ks c with
  | some a=>some a
  | none=>zZ ρ d ks cs
def AA (P:Program) (T:Told) (ρ:Nat->Res) (k:Operand->K) (d:Option Nat):Op->MK
 | .call { callee:=.value f,args:=xs,argTypes:=_ }=>match k f with
  | .val (.clo g t) cx=>if MH P g&&xG t then zZ ρ d (xs.toList.map k++WL t cx) (T.nc g ((xs.toList.map k++WL t cx).map b6d)) else none
  | _=>none
 | _=>none
def c5N (s:Nat) (p:Part) (k:Operand->K):Operand->K:=fun y=>match y with
 | .tmp s'=>if s'=s then .val p.t p.x else k (.tmp s')
 | y=>k y
def YH (P:Program) (ρ:Nat->Res) (k:Operand->K):Op->MK
 | .slice t (.tmp s) lo hi mx=>match k (.tmp s) with
  | .own r v=>match tH ρ (.own r v) with
   | some (p,l)=>match JF P (c5N s p k) (.slice t (.tmp s) lo hi mx) with
    | some (vc,kk)=>some (vc,kk,l)
    | none=>none
   | none=>none
  | _=>none
 | _=>none
def qI (P:Program) (C:FuncId->List At->List Ctr) (T:Told) (ρ:Nat->Res) (k:Operand->K) (d:Option Nat) (op:Op):MK :=
 match fG P k op with
 | some (vc,kk)=>some (vc,kk,[])
 | none=>match orC (QI P T k op) (orC (b5o P k op) (JF P k op)) with
  | some (vc,kk)=>some (vc,kk,[])
  | none=>match sD P T ρ k d op with
  | some r=>some r
  | none=>match KY P ρ k op with
   | some (vc,kk)=>some (vc,kk,[])
   | none=>match a1R P T ρ k d op with
    | some r=>some r
    | none=>match UO P T ρ k d op with
     | some r=>some r
     | none=>match CW P T ρ k d op with
      | some r=>some r
      | none=>match YH P ρ k op with
       | some r=>some r
       | none=>match AA P T ρ k d op with
        | some r=>some r
        | none=>match wU P ρ k op with
         | some r=>some r
         | none=>wS P C ρ k op
section
variable {P:Program} {E:Env} {ρ:Nat->Res} {W w:World}
theorem LK.cnt (k:LK) (x:k.ty.den) (v v':Nat):(k.res x v).cnt=(k.res x v').cnt:=by cases k<;>rfl
theorem LK.nk (k:LK) (x:k.ty.den) (v:Nat) (k':K):k.res x v≠.lG k':=by cases k<;>exact fun h=>by cases h
theorem LK.keep {k:LK} (hf:k.el.free=true) {E E':Env} {r r':Nat} {x:k.ty.den} {v v':Nat} (h1:E'.blk r'=E.blk r) (h2:E'.sl r'=E.sl r) (h3:E'.inn r'=E.inn r) (h:nD E w r (k.res x v)) (hn:∀ e t,k=.row e t->nnS v' (E'.sl r')):nD E' w r' (k.res x v'):=by
 cases k with
 | row e t =>
  obtain⟨k1,k2,cs,k3,k4,k5⟩:=h;exact⟨by rw[h1,h2];exact k1,k2,cs,by rw[h2];exact k3,aZ (fun c y=>qH t hf c y) _ _ k4,by rw[h2];exact k5.1,hn _ _ rfl⟩
 | mat e e2 t =>
  obtain⟨k1,k2,⟨cs,k3,k4,k5⟩,k6,k7,k8⟩:=h;refine⟨by rw[h1,h2];exact k1,k2,⟨cs,by rw[h2];exact k3,by rw[h3];exact k4,by rw[h2];exact k5⟩,k6,by rw[h3];exact k7,fun i xs hi=>?_⟩;obtain⟨ds,q1,q2,q3⟩:=k8 i xs hi;exact⟨ds,by rw[h3];exact q1,aZ (fun c y=>qH t hf c y) _ _ q2,by rw[h3];exact q3⟩
theorem LK.blk {k:LK} {E:Env} {r:Nat} {x:k.ty.den} {v:Nat} (h:nD E w r (k.res x v)):E.blk r=bK (E.sl r):=by cases k<;>exact h.1
theorem mem_of {F:Nat->Prop} {s:Value} {I:Nat->Value} {x0:Res} (h1:nD (Env.of F w s I) w 0 x0) (hkb:∀ k,x0≠.lG k) (hi0:∀ b i,bK s=some b->bK (I i)≠some b) (hi1:∀ b i i',bK (I i)=some b->bK (I i')=some b->i=i') (hin:∀ i,x0.cnt<=i->bK (I i)=none):Mem (Env.of F w s I) (a3q x0) w w:=by
 have hh:∀ r j b,(Env.of F w s I).has r j b->r=0/\(match j with|0=>bK s=some b|i+1=>bK (I i)=some b):=fun r j b h=>by
  cases j with
  | zero =>
   have h:(if r=0 then bK s else none)=some b:=h;split at h
   ·rename_i e;exact⟨e,h⟩
   ·cases h
  | succ i =>
   have h:bK (if r=0 then I i else undef)=some b:=h;split at h
   ·rename_i e;exact⟨e,h⟩
   ·cases h
 refine⟨⟨rfl,rfl,rfl,aj _,fun _ _ _=>rfl⟩,fun r=>?_,fun r j r' j' b a c=>?_,fun r j b a=>?_,fun q hq=>?_,fun r i hi=>?_,fun r k e=>?_,fun b o n h=>h⟩
 ·by_cases e:r=0
  ·subst e;exact h1
  ·rw[show a3q x0 r=.none from bn e];exact bn e
 ·obtain⟨rfl,a⟩:=hh r j b a;obtain⟨rfl,c⟩:=hh r' j' b c;refine⟨rfl,?_⟩;cases j<;>cases j'
  ·rfl
  ·exact absurd c (hi0 b _ a)
  ·exact absurd a (hi0 b _ c)
  ·rw[hi1 b _ _ a c]
 ·obtain⟨_,a⟩:=hh r j b a;left;cases j with
  | zero=>exact .inl a
  | succ i=>exact .inr ⟨i,a⟩
 ·exact hq.elim (fun h=>.inr (.inl h)) (fun h=>.inr (.inr h))
 ·by_cases e:r=0
  ·subst e;exact hin i hi
  ·show bK (if r=0 then _ else undef)=none;rw[bn e];rfl
 ·by_cases e':r=0
  ·subst e';exact absurd e (hkb k)
  ·rw[show a3q x0 r=.none from bn e'] at e;cases e
theorem a3z {F F':Nat->Prop} {ts:List Ty} {v:Value} {y:(nest ts).den} (hF:∀ q,F q->F' q) (h:rF F w ts v y):rF F' w ts v y:=by
 match ts,y,h with
 | [t],y,h=>exact fU hF (jK.refl _ _) h
 | [],y,⟨vs,h1,h2⟩=>exact⟨vs,h1,kP hF (jK.refl _ _) [] vs y h2⟩
 | t1::t2::ts,y,⟨vs,h1,h2⟩=>exact⟨vs,h1,kP hF (jK.refl _ _) _ vs y h2⟩
theorem ZB {g:FuncId} {k:LK} {args res:List Ty} {pre:k.ty.den->(nest args).den->Prop} {dec:∀ x y,Dc (pre x y)} {out:k.ty.den->(nest args).den->k.ty.den} {fn:k.ty.den->(nest args).den->(nest res).den} (hN:NOk P g (@lK.chg k args res pre out fn dec)) (hf:k.el.free=true) (hM:Mem E ρ W w)
  {r v' v'':Nat} {x:k.ty.den} (hr:ρ r=k.res x v') (hle:v'<=v'') (hvm:∀ e e2 t,k=.mat e e2 t->v'<v'') (hvr:∀ e t,k=.row e t->v''=v') {F:Nat->Prop} (hF2:∀ q,F q->q<w.heap.size/\∀ j,¬ E.has r j q)
  {vs:List Value} {y:(nest args).den} (ht:jE F w args vs y) (hres:res.all Ty.free=true\/∀ q,F q->fz w E q) (hp:pre x y) :
  Calls P g (E.sl r::vs).toArray w (fun e w'=>∃ v E',e=.returned v/\Mem E' (bJ ρ r (k.res (out x y) v'')) W w'/\Ext E ρ w E' (bJ ρ r (k.res (out x y) v'')) w'/\rF (fz w' E') w' res v (fn x y)):=by
 have TU:=hM.res r;rw[hr] at TU;have hblk:=LK.blk TU;have hX:∀ q,BL (E.sl r) (E.inn r) q↔∃ j,E.has r j q:=fun q=>⟨fun h=>h.elim (fun h=>⟨0,hblk.trans h⟩) (fun⟨i,h⟩=>⟨i+1,h⟩),fun⟨j,h⟩=>by
  cases j with
  | zero=>exact .inl (hblk.symm.trans h)
  | succ i=>exact .inr ⟨i,h⟩⟩
 have h0:Mem (Env.of F w (E.sl r) (E.inn r)) (a3q (k.res x 0)) w w:=mem_of (LK.keep hf (E:=E) (r:=r) (E':=Env.of F w (E.sl r) (E.inn r)) (r':=0) hblk.symm rfl rfl TU (fun _ _ _=>a3k _)) (LK.nk k x 0) (fun b i h1 h2=>by have:=(hM.inj r 0 r (i+1) b (hblk.trans h1) h2).2;cases this) (fun b i i' h1 h2=>by have:=(hM.inj r (i+1) r (i'+1) b h1 h2).2;omega) (fun i hi=>hM.inner r i (by rw[hr,LK.cnt k x v' 0];exact hi));refine(hN F w (E.sl r) (E.inn r) vs x y (fun q hq=>⟨(hF2 q hq).1,fun h=>by obtain⟨j,h⟩:=(hX q).1 h;exact(hF2 q hq).2 j h⟩) h0 ht hp).mono ?_;rintro e w' ⟨v,E1,ρ1,v0,rfl,m1,m2,m3,m4,m5,m6⟩;have hr1:=m1.res 0;rw[m4] at hr1;have hmb:∀ b,E1.qF b↔∃ j,E.has r j b:=by rw[m3];exact hX
 obtain⟨n1,n2⟩:=hM.GK (w':=w') r ⟨m1.below.os,m1.below.tape,m1.below.output,m1.below.size,fun b hb hn=>m1.below.blk b hb (fun h=>by obtain⟨j,h⟩:=(hmb b).1 h;exact hn r j rfl h),m1.dig⟩ (E1.blk 0) (E1.sl 0) (E1.inn 0) (k.res (out x y) v'')
  (LK.keep hf (E:=E1) (r:=0) (aF _ _ _) (aF _ _ _) (aF _ _ _) hr1 (fun e t e9=>by
   subst e9;rw[hvr _ _ rfl,show (E.sN r (E1.blk 0) (E1.sl 0) (E1.inn 0)).sl r=E1.sl 0 from aF _ _ _,m5];obtain⟨_,_,_,_,_,z⟩:=TU;exact z.2))
  (fun q hq=>by
   have:∃ j,E1.has 0 j q:=hq.elim (fun h=>⟨0,h⟩) (fun⟨i,h⟩=>⟨i+1,h⟩);obtain⟨j,h⟩:=this;rcases m1.mine 0 j q h with h|h
   ·exact .inl ((hmb q).1 h)
   ·exact .inr h)
  (fun q i h1 h2=>by have:=(m1.inj 0 0 0 (i+1) q h1 h2).2;cases this)
  (fun i i' q h1 h2=>by have:=(m1.inj 0 (i+1) 0 (i'+1) q h1 h2).2;omega)
  (fun i hi=>m1.inner 0 i (by rw[m4,LK.cnt k _ v0 v''];exact hi))
  (fun h=>by rw[hr] at h;cases k<;>exact h.elim)
  (fun h=>by rw[hr] at h;cases k<;>exact h.elim)
  (fun v h=>by rw[hr] at h;cases k<;>exact au h hle)
  (fun v h h'=>by
   rw[hr] at h ⊢;refine⟨?_,m5,?_⟩
   ·have h1:v<=v':=by cases k<;>exact h
    have h2:gv v''=gv v:=by cases k<;>exact h'
    have h3:gv v'=gv v:=by have:=JW h1;have:=JW hle;omega
    cases k<;>exact h3
   ·cases k<;>rfl)
  (fun v h h'=>by
   rw[hr] at h;cases k with
   | row e t=>exact h'.elim
   | mat e e2 t =>
    have h1:v<=v':=h;have h2:v''=v:=h';have:=hvm _ _ _ rfl;omega)
  (fun _ k' e=>absurd e (LK.nk k _ _ k'))
 refine⟨v,_,rfl,n1,n2,?_⟩;rcases hres with hres|hres
 ·exact VI hres m6
 ·refine a3z (fun q hq=>?_) m6;have hb:=hq.1.2;rw[m2] at hb;have hb:F q\/BL (E.sl r) (E.inn r) q\/w.heap.size<=q:=hb;refine sH hq.1.1 ?_ (fun r' j h=>?_)
  ·show E.base q;rcases hb with hb|hb|hb
   ·exact(hres q hb).1.2
   ·obtain⟨j,h⟩:=(hX q).1 hb;exact hM.base _ (hM.mine r j q h)
   ·exact hM.base _ (.inr (au hM.below.size hb))
  ·rw[nS] at h;split at h
   ·exact sW hq 0 j (by cases j<;>exact h)
   ·rename_i hne;rcases hb with hb|hb|hb
    ·exact sW (hres q hb) r' j h
    ·obtain⟨j',h'⟩:=(hX q).1 hb;exact hne (hM.inj _ _ _ _ _ h h').1
    ·have:=hM.lt h;omega
theorem b5Z {g:FuncId} {e e1:TypeId} {t:Ty} {args res:List Ty} {pre:List t.den->(nest args).den->Prop} {dec:∀ (x:(LK.row e t).ty.den) y,Dc (pre x y)} {out:List t.den->(nest args).den->List t.den} {fn:List t.den->(nest args).den->(nest res).den} (hN:NOk P g (@lK.chg (.row e t) args res pre out fn dec)) (hf:t.free=true) (hM:Mem E ρ W w)
  {r i v':Nat} {ids:Option (List Nat)} {xss:List (List t.den)} (hr:ρ r=.mat e1 e t ids xss v') (hi:i<xss.length) {F:Nat->Prop} (hF2:∀ q,F q->q<w.heap.size/\¬ E.has r (i+1) q)
  {vs:List Value} {y:(nest args).den} (ht:jE F w args vs y) (hres:res.all Ty.free=true\/∀ q,F q->fz w E q) (hp:pre (rowAt xss i) y) :
  Calls P g (E.inn r i::vs).toArray w (fun e9 w'=>∃ v E',e9=.returned v/\Mem E' (bJ ρ r (.mat e1 e t ids (xss.set i (out (rowAt xss i) y)) v')) W w'/\Ext E ρ w E' (bJ ρ r (.mat e1 e t ids (xss.set i (out (rowAt xss i) y)) v')) w'/\rF (fz w' E') w' res v (fn (rowAt xss i) y)):=by
 have TU:=hM.res r;rw[hr] at TU;obtain⟨k1,k2,⟨cs,k3,k4,k5⟩,k6,k7,k8⟩:=TU;obtain⟨ds,q1,q2,q3⟩:=nU hM hr hi;have hX:∀ q,BL (E.inn r i) (fun _=>undef) q↔E.has r (i+1) q:=fun q=>⟨fun h=>h.elim id (fun⟨_,h⟩=>by cases h),fun h=>.inl h⟩;have h0:Mem (Env.of F w (E.inn r i) (fun _=>undef)) (a3q ((LK.row e t).res (rowAt xss i) 0)) w w:=mem_of ⟨rfl,k2,ds,q1,aZ (fun c y=>qH t hf c y) _ _ q2,q3,a3k _⟩ (fun k e=>by cases e) (fun b i h1 h2=>by cases h2) (fun b i i' h1 h2=>by cases h1) (fun i hi=>rfl);refine(hN F w (E.inn r i) (fun _=>undef) vs (rowAt xss i) y (fun q hq=>⟨(hF2 q hq).1,fun h=>(hF2 q hq).2 ((hX q).1 h)⟩) h0 ht hp).mono ?_;rintro e9 w' ⟨v,E1,ρ1,v0,rfl,m1,m2,m3,m4,m5,m6⟩;have hr1:=m1.res 0;rw[m4] at hr1;obtain⟨p1,p2,cs1,p3,p4,p5⟩:=hr1;rw[m5] at p1 p3 p5;have hmb:∀ b,E1.qF b↔E.has r (i+1) b:=by rw[m3];exact hX
 have hg:lH E w w' (fun q=>q=r):=⟨m1.below.os,m1.below.tape,m1.below.output,m1.below.size,fun b hb hn=>m1.below.blk b hb (fun h=>hn r (i+1) rfl ((hmb b).1 h)),m1.dig⟩;have hst:∀ j b,j≠i+1->E.has r j b->w'.heap[b]?=w.heap[b]?:=fun j b hj hb=>m1.below.blk b (hM.lt hb) (fun h=>hj (hM.inj _ _ _ _ _ hb ((hmb b).1 h)).2);have hF9:∀ q,fz w E q->fz w' E q:=fun q hq=>⟨⟨qh hq.1.1 m1.below.size,hq.1.2⟩,hq.2⟩;have a4s:bW ids (xss.set i (out (rowAt xss i) y))=bW ids xss:=by cases ids<;>simp[bW]
 have hx:nD E w' r (.mat e1 e t ids (xss.set i (out (rowAt xss i) y)) v'):=by
  refine⟨k1,k2,⟨cs,?_,?_,jM k5 (fun b e9=>hst 0 b (by omega) (k1.trans e9))⟩,?_,?_,fun j xs hj=>?_⟩
  ·rw[a4s];exact dU k3 (fun b e9=>hst 0 b (by omega) (k1.trans e9))
  ·rw[a4s];exact k4
  ·rw[a4s,qp];exact k6
  ·rw[qp];exact k7
  ·by_cases e9:i=j
   ·subst e9;rw[List.getElem?_set_self hi] at hj;cases hj;exact⟨cs1,p3,aZ (fun c y=>qH t hf c y) _ _ p4,p5.1⟩
   ·rw[List.getElem?_set_ne e9] at hj;obtain⟨ds2,d1,d2,d3⟩:=k8 j xs hj;exact⟨ds2,dU d1 (fun b e8=>hst (j+1) b (by omega) e8),aZ (fun c y=>bY hF9 hg.stay t c y) _ _ d2,jM d3 (fun b e8=>hst (j+1) b (by omega) e8)⟩
 obtain⟨n1,n2⟩:=hM.turns (E':=E) (ρ':=bJ ρ r (.mat e1 e t ids (xss.set i (out (rowAt xss i) y)) v')) (fun q=>q=r) hg (fun q hq=>⟨rfl,rfl,rfl,aS _ _ hq⟩) rfl rfl rfl
  (fun r' j b e9 h=>.inl ⟨r',j,e9,h⟩) (fun r1 j r2 j' b _ _ h1 h2=>hM.inj _ _ _ _ _ h1 h2)
  (fun r' i' e9 h=>by subst e9;rw[aF] at h;exact hM.inner r' i' (by rw[hr];have h:(xss.set i _).length<=i':=h;rw[qp] at h;exact h))
  (fun r' e9 h=>by subst e9;rw[hr] at h;exact h.elim)
  (fun r' e9 h=>by subst e9;rw[hr] at h;exact h.elim)
  (fun r' v e9 h=>by subst e9;rw[aF];rw[hr] at h;exact h)
  (fun r' v e9 h h'=>by subst e9;rw[aF] at h' ⊢;exact⟨by rw[hr];exact h',rfl,by rw[hr];rfl⟩)
  (fun r' v e9 h h'=>by subst e9;rw[aF] at h' ⊢;exact⟨by rw[hr];exact h',by rw[hr];rfl,by rw[hr];exact Nat.le_of_eq (qp ..).symm,fun _ _=>rfl⟩)
  (fun r' e9=>by subst e9;rw[aF];exact hx)
  (fun _ r' k e9 h=>by subst e9;rw[aF] at h;cases h)
 refine⟨v,E,rfl,n1,n2,?_⟩;rcases hres with hres|hres
 ·exact VI hres m6
 ·refine a3z (fun q hq=>?_) m6;have hb:=hq.1.2;rw[m2] at hb;have hb:F q\/BL (E.inn r i) (fun _=>undef) q\/w.heap.size<=q:=hb;have hno:¬ BL (E.inn r i) (fun _=>undef) q:=fun h=>by refine sW hq 0 0 (show E1.blk 0=some q from ?_);have:E1.blk 0=bK (E.inn r i):=p1;rw[this];exact(hX q).1 h
  refine sH hq.1.1 ?_ (fun r' j h=>?_)
  ·rcases hb with hb|hb|hb
   ·exact(hres q hb).1.2
   ·exact absurd hb hno
   ·exact hM.base _ (.inr (au hM.below.size hb))
  ·rcases hb with hb|hb|hb
   ·exact sW (hres q hb) r' j h
   ·exact hno hb
   ·have:=hM.lt h;omega
theorem b5V {g:FuncId} {k:LK} {args:List Ty} {pre:(nest args).den->Prop} {made:(nest args).den->k.ty.den} {dec:∀ x,Dc (pre x)} (hN:NOk P g (@lK.mk k args pre made dec)) (hf:k.el.free=true) (hM:Mem E ρ W w) {d:Nat} (hd:(ρ d).isNone=true) {vs:List Value} {y:(nest args).den} (ht:jE (FZ w) w args vs y) (hp:pre y) :
  Calls P g vs.toArray w (fun e w'=>∃ v E',e=.returned v/\Mem E' (bJ ρ d (k.res (made y) 0)) W w'/\Ext E ρ w E' (bJ ρ d (k.res (made y) 0)) w'/\v=E'.sl d):=by
 refine(hN (FZ w) w vs y (fun q hq=>hq) ht hp).mono ?_;rintro e w' ⟨v,E1,ρ1,q0,v0,rfl,m1,m3,m4,m5⟩;have hd:=Res.mV hd;have hr1:=m1.res q0;rw[m4] at hr1;obtain⟨n1,n2⟩:=hM.GK (w':=w') d ⟨m1.below.os,m1.below.tape,m1.below.output,m1.below.size,fun b hb hn=>m1.below.blk b hb (m3 b),m1.dig⟩ (E1.blk q0) (E1.sl q0) (E1.inn q0) (k.res (made y) 0)
  (LK.keep hf (E:=E1) (r:=q0) (aF _ _ _) (aF _ _ _) (aF _ _ _) hr1 (fun _ _ _=>a3k _))
  (fun q hq=>by
   have:∃ j,E1.has q0 j q:=hq.elim (fun h=>⟨0,h⟩) (fun⟨i,h⟩=>⟨i+1,h⟩);obtain⟨j,h⟩:=this;exact .inr ((m1.mine q0 j q h).resolve_left (m3 q)))
  (fun q i h1 h2=>by have:=(m1.inj q0 0 q0 (i+1) q h1 h2).2;cases this)
  (fun i i' q h1 h2=>by have:=(m1.inj q0 (i+1) q0 (i'+1) q h1 h2).2;omega)
  (fun i hi=>m1.inner q0 i (by rw[m4,LK.cnt k _ v0 0];exact hi))
  (fun h=>by rw[hd] at h;exact h.elim)
  (fun h=>by rw[hd] at h;exact h.elim)
  (fun v h=>by rw[hd] at h;exact h.elim)
  (fun v h _=>by rw[hd] at h;exact h.elim)
  (fun v h _=>by rw[hd] at h;exact h.elim)
  (fun _ k' e=>absurd e (LK.nk k _ _ k'))
 exact⟨v,_,rfl,n1,n2,by rw[m5];exact(aF _ _ _).symm⟩
def b1I (row:Option Nat) (j:Nat):Prop:=match row with
 | none=>True
 | some i=>j=i+1
theorem a3Q {r:Nat} {row:Option Nat} (hM:Mem E ρ W w):∀ {ts:List Ty} {ks:List K} {vc:List Cd} {x:(nest ts).den} {vs:List Value},LV ρ r row ts ks=some (vc,x)->dH vc->(∀ k ∈ ks,k.wf ρ)->lJ (fun k v=>K.holds E ρ w k v) ks vs->jE (fun q=>q<w.heap.size/\∀ j,b1I row j->¬ E.has r j q) w ts vs x
 | [],[],vc,x,vs,h,hv,hw,hk=>by cases hk;rfl
 | [],_::_,vc,x,vs,h,hv,hw,hk=>by simp[LV] at h
 | _::_,[],vc,x,vs,h,hv,hw,hk=>by simp[LV] at h
 | t::ts,k::ks,vc,x,vs,h,hv,hw,hk=>by
  simp only[LV] at h;split at h<;>try(cases h;done)
  rename_i c p hc h1;split at h<;>try(cases h;done)
  rename_i q vc2 x2 hq h2;simp only[ah,ak] at h;obtain⟨rfl,rfl⟩:=h;cases hk;rename_i v vs hv1 hvs;obtain⟨hvc,hv⟩:=dI.1 hv;obtain⟨hva,hvb⟩:=dI.1 hv;obtain⟨cs,rfl,hr⟩:=a0l (F:=fun q=>q<w.heap.size/\∀ j,b1I row j->¬ E.has r j q) h1 hM (hw k (je ..)) hv1 (fun q hq=>⟨hq.1.1,fun j _=>sW hq r j⟩) (fun r' ver e j g hg=>⟨hM.lt hg,fun j' _ hh=>by
   have:=(hM.inj _ _ _ _ _ hg hh).1;subst e;simp only[c0u] at hc;split at hc
   ·cases hc
   ·rename_i hne;exact hne (by simpa using this)⟩) (fun r' ver i e g hg=>⟨hM.lt hg,fun j' hj hh=>by
   obtain⟨e1,e2⟩:=hM.inj _ _ _ _ _ hg hh;subst e;simp only[c0u] at hc;split at hc
   ·cases row with
    | none=>cases hc
    | some i0 =>
     simp only[Option.map_some,ah] at hc;subst hc;have hj:j'=i0+1:=hj;have:=hvc.1;omega
   ·rename_i hne;exact hne (by simpa using e1)⟩)
  exact⟨_,vs,rfl,⟨cs,by unfold Ty.toV;rw[xH _ _ _ hq],tX _ _ _ hq cs _ hr hva⟩,a3Q hM h2 hvb (fun k hk=>hw k (jd _ hk)) hvs⟩
theorem YV {g:FuncId} {k:LK} {args res:List Ty} {pre:k.ty.den->(nest args).den->Prop} {dec:∀ x y,Dc (pre x y)} {out:k.ty.den->(nest args).den->k.ty.den} {fn:k.ty.den->(nest args).den->(nest res).den} (hN:NOk P g (@lK.chg k args res pre out fn dec)) (hf:k.el.free=true) (hM:Mem E ρ W w) {k0:K} {r:Nat} {row:Option Nat} {x:k.ty.den} {back:k.ty.den->Res} (hl:a6z ρ k k0=some (r,row,x,back)) (hw:k0.wf ρ) {v0:Value} (hk:k0.holds E ρ w v0)
  {F:Nat->Prop} (hF2:∀ q,F q->q<w.heap.size/\∀ j,b1I row j->¬ E.has r j q) {vs:List Value} {y:(nest args).den} (ht:jE F w args vs y) (hres:res.all Ty.free=true\/∀ q,F q->fz w E q) (hp:pre x y) :
  Calls P g (v0::vs).toArray w (fun e w'=>∃ v E',e=.returned v/\Mem E' (bJ ρ r (back (out x y))) W w'/\Ext E ρ w E' (bJ ρ r (back (out x y))) w'/\rF (fz w' E') w' res v (fn x y)):=by
 cases k with
 | row e t =>
  cases k0
  case own r0 ver =>
   have hl:QV e t r0 ver (ρ r0)=some (r,row,x,back):=hl;unfold QV at hl;split at hl<;>first|(cases hl;done)|skip
   rename_i e' t' xs v' hr;split at hl<;>first|(cases hl;done)|skip
   rename_i ys hc;split at hl<;>first|(cases hl;done)|skip
   rename_i hb;simp only[ay,jo] at hb;obtain⟨rfl,hb⟩:=hb;cases hl;obtain⟨e9,hc⟩:=dO hc;simp only[Ty.list.injEq] at e9;subst e9;have hc:xs=ys:=hc;subst hc;have hv:v0=E.sl r:=hk (by rw[hr];exact hb.symm);subst hv;exact ZB (k:=.row e' t') hN hf hM (v':=v') (v'':=v') hr (aj _) (fun _ _ _ e=>by cases e) (fun _ _ _=>rfl) (fun q hq=>⟨(hF2 q hq).1,fun j=>(hF2 q hq).2 j trivial⟩) ht hres hp
  case mrow r0 ver i =>
   have hl:QU e t r0 ver i (ρ r0)=some (r,row,x,back):=hl;unfold QU at hl;split at hl<;>first|(cases hl;done)|skip
   rename_i e1 e' t' ids xss v' hr;split at hl<;>first|(cases hl;done)|skip
   rename_i yss hc;split at hl<;>first|(cases hl;done)|skip
   rename_i hb;simp only[ay,jo] at hb;obtain⟨rfl,rfl⟩:=hb;cases hl;obtain⟨e9,hc⟩:=dO hc;simp only[Ty.list.injEq] at e9;subst e9;have hc:xss=yss:=hc;subst hc;have hv:v0=E.inn r i:=hk (by rw[hr];rfl);subst hv;have hi:=hw.2 (by rw[hr];rfl);rw[hr] at hi;exact b5Z hN hf hM hr hi (fun q hq=>⟨(hF2 q hq).1,(hF2 q hq).2 _ rfl⟩) ht hres hp
  all_goals
   have hl:none=some (r,row,x,back):=hl;cases hl
 | mat e e2 t =>
  cases k0
  case own r0 ver =>
   have hl:QT e e2 t r0 ver (ρ r0)=some (r,row,x,back):=hl;unfold QT at hl;split at hl<;>first|(cases hl;done)|skip
   rename_i e' e2' t' xss v' hr;split at hl<;>first|(cases hl;done)|skip
   rename_i yss hc;split at hl<;>first|(cases hl;done)|skip
   rename_i hb;simp only[ay,jo] at hb;obtain⟨⟨rfl,rfl⟩,hb⟩:=hb;cases hl;obtain⟨e9,hc⟩:=dO hc;simp only[Ty.list.injEq] at e9;subst e9;have hc:xss=yss:=hc;subst hc;have hv:v0=E.sl r:=hk (by rw[hr];exact hb.symm);subst hv;exact ZB (k:=.mat e' e2' t') hN hf hM (v':=v') (v'':=v'+1) hr (Nat.le_succ _) (fun _ _ _ _=>Nat.lt_succ_self _) (fun _ _ e=>by cases e) (fun q hq=>⟨(hF2 q hq).1,fun j=>(hF2 q hq).2 j trivial⟩) ht hres hp
  all_goals
   have hl:none=some (r,row,x,back):=hl;cases hl
theorem XH {d:Option Nat} {g:FuncId} {ks:List K} {vs:List Value} {Q:Ending->World->Prop}:∀ {cs:List lK},(∀ c ∈ cs,NOk P g c)->∀ {vc:List Cd} {kk:K} {l:List (Nat × Res)},zZ ρ d ks cs=some (vc,kk,l)->dH vc->Mem E ρ W w->(∀ k ∈ ks,k.wf ρ)->lJ (fun k v=>K.holds E ρ w k v) ks vs ->
  (∀ v w' E',Mem E' (after ρ l) W w'->Ext E ρ w E' (after ρ l) w'->kk.wf (after ρ l)->kk.holds E' (after ρ l) w' v->Q (.returned v) w')->Calls P g vs.toArray w Q
 | [],_,vc,kk,l,h,_,_,_,_,_=>by simp[zZ] at h
 | c::cs,hN,vc,kk,l,h,hv,hM,hw,hk,hq=>by
  simp only[zZ] at h;split at h
  ·rename_i a ha;simp only[ah] at h;subst h;have hc:=hN c (je ..);cases c with
   | mk k args pre made =>
    simp only[GN] at ha;split at ha<;>first|(cases ha;done)|skip
    rename_i _ r;split at ha<;>first|(cases ha;done)|skip
    rename_i hb;simp only[ay] at hb;split at ha<;>first|(cases ha;done)|skip
    rename_i vc1 y hva;simp only[ah,ak] at ha;obtain⟨rfl,rfl,rfl⟩:=ha;obtain⟨hv1,hp,_⟩:=dI.1 hv;refine(b5V hc hb.2 hM hb.1 (DJ hva hv1 hM hw hk) hp).mono ?_;rintro e w' ⟨v,E',rfl,n1,n2,n3⟩;refine hq v w' E' n1 n2 ?_ (fun _=>n3);show Res.dW 0 (bJ ρ r _ r);rw[aF];cases k<;>exact aj _
   | chg k args res pre out fn =>
    simp only[GN] at ha;split at ha<;>first|(cases ha;done)|skip
    rename_i k0 ks';cases hk;rename_i v0 vs' hk0 hks;split at ha<;>first|(cases ha;done)|skip
    rename_i r row x back hl;split at ha<;>first|(cases ha;done)|skip
    rename_i hfr;have hw0:=hw k0 (je ..);have hws:∀ k ∈ ks',k.wf ρ:=fun k h=>hw k (jd _ h);split at ha
    ·rename_i vc1 y hva;simp only[ah,ak] at ha;obtain⟨rfl,rfl,rfl⟩:=ha;obtain⟨hv1,hp,_⟩:=dI.1 hv;simp only[Option.bind_eq_some_iff] at hva;obtain⟨⟨vc2,y2,l2⟩,hva,h9⟩:=hva;cases l2 with
     | cons _ _=>cases h9
     | nil =>
      simp only[noL,ah,ak] at h9;obtain⟨rfl,rfl⟩:=h9;obtain⟨E1,m1,m2,m3⟩:=SC hva hv1 hM hws hks;have m1:Mem E1 ρ W w:=m1;have m2:Ext E ρ w E1 ρ w:=m2;refine(YV hc hfr m1 hl hw0 (m2.holds _ _ hw0 hk0) (fun q hq=>⟨hq.1.1,fun j _=>sW hq r j⟩) m3 (.inr fun q h=>h) hp).mono ?_;rintro e w' ⟨v,E',rfl,n1,n2,n3⟩;obtain⟨r1,r2⟩:=RD (E:=E') (ρ:=bJ ρ r (back (out x y2))) (w:=w') (F:=fz w' E') (fun q hq=>hq) n3;exact hq v w' E' n1 (m2.trans n2) r2 r1
    ·split at ha<;>first|(cases ha;done)|skip
     rename_i hrf;split at ha<;>first|(cases ha;done)|skip
     rename_i vc1 y hva;simp only[ah,ak] at ha;obtain⟨rfl,rfl,rfl⟩:=ha;obtain⟨hv1,hp,_⟩:=dI.1 hv;refine(YV hc hfr hM hl hw0 hk0 (fun q hq=>hq) (a3Q hM hva hv1 hws hks) (.inl hrf) hp).mono ?_;rintro e w' ⟨v,E',rfl,n1,n2,n3⟩;obtain⟨r1,r2⟩:=RD (E:=E') (ρ:=bJ ρ r (back (out x y))) (w:=w') (F:=fz w' E') (fun q hq=>hq) n3;exact hq v w' E' n1 n2 r2 r1
  ·exact XH (fun c hc=>hN c (jd _ hc)) h hv hM hw hk hq
theorem a8f {T:Told} (hN:∀ g ts,∀ c ∈ T.nc g ts,NOk P g c) {k:Operand->K} {a:Act} {o:Oper} {vc:List Cd} {kk:K} {l:List (Nat × Res)} (h:AA P T ρ k o.dst o.op=some (vc,kk,l)) (hv:dH vc) (hM:Mem E ρ W w) (hw:∀ x,(k x).wf ρ) (hk:∀ x,(k x).holds E ρ w (a.eval x)):DU P E ρ W w o a kk l:=by
 cases ho:o.op<;>rw[ho] at h<;>try (simp[AA] at h;done)
 case call c =>
  obtain⟨cl,xs,ts⟩:=c;cases cl<;>try (simp[AA] at h;done)
  rename_i f;simp only[AA] at h;have a4t:=hk f;split at h<;>try(cases h;done)
  rename_i g t cx hkf;split at h<;>try(cases h;done)
  rename_i he;simp only[ay] at he;rw[hkf] at a4t;obtain⟨cs,hfv,ds,hcs,hrep⟩:=a4t;have hfv:a.eval f=.func (.func g) #[] ds.toArray:=by rw[hfv,hcs];rfl
  obtain⟨hks,hws⟩:=a0K (E:=E) (ρ:=ρ) t cx ds he.2 hrep (fun q h=>h);have ha:lJ (fun k v=>K.holds E ρ w k v) (xs.toList.map k++WL t cx) (xs.toList.map a.eval++ds):=by
   generalize xs.toList=cl
   induction cl with
   | nil=>exact hks
   | cons x xs ih=>exact .cons (hk x) ih
  intro next Q hn
  have hrun:(execOp a.eval o).run P w=.ok (.enter g ((xs.toList.map a.eval++ds).toArray)) w:=by
   have:(xs.map a.eval++ds.toArray)=(xs.toList.map a.eval++ds).toArray:=by apply Dw;simp
   simp only[execOp,ho,resolve,Deferred.ofValue,hfv,eu,Sem.run_pure,Result.andThen_ok,invoke];rw[<-this];simp only[Array.empty_append];exact XZ he.1
  unfold Oper.wp;rw[hrun,Oper.upon_enter];refine(XH (fun c hc=>hN g _ c hc) h hv hM (fun k9 hk9=>?_) ha (Q:=fun e w'=>∃ v,e=.returned v/\next (a.put o.dst v) w') (fun v w' E' m1 m2 m3 m4=>⟨v,rfl,hn v w' E' m1 m2 m3 m4⟩)).mono ?_
  ·rcases tu.1 hk9 with hk9|hk9
   ·obtain⟨q,_,rfl⟩:=jq.1 hk9;exact hw q
   ·exact hws k9 hk9
  ·rintro e w' ⟨v,rfl,h⟩;exact h
theorem b1i {k:Operand->K} {a:Act} {o:Oper} {vc:List Cd} {kk:K} {l:List (Nat × Res)} (h:YH P ρ k o.op=some (vc,kk,l)) (hv:dH vc) (hM:Mem E ρ W w) (hw:∀ x,(k x).wf ρ) (hk:∀ x,(k x).holds E ρ w (a.eval x)):DU P E ρ W w o a kk l:=by
 unfold YH at h;split at h<;>try(cases h;done)
 rename_i t s lo hi mx hop;split at h<;>try(cases h;done)
 rename_i r v hks;split at h<;>try(cases h;done)
 rename_i p l' hav;split at h<;>try(cases h;done)
 rename_i vc' kk' hc;simp only[ah,ak] at h;obtain⟨rfl,rfl,rfl⟩:=h;have hws:=hw (.tmp s);have hhs:=hk (.tmp s);rw[hks] at hws hhs;obtain⟨E',m1,m2,m3⟩:=oC (t:=none) (k:=.own r v) hav hM hws hhs;rw[<-hop] at hc;obtain⟨⟨v',h1,h2⟩,h3⟩:=a2j (E:=E') (ρ:=after ρ l') (w:=w) (ev:=a.eval) hc hv (fun y=>by
  unfold c5N;split
  ·split
   ·rename_i e;subst e;exact m3
   ·exact m2.holds _ _ (hw _) (hk _)
  ·exact m2.holds _ _ (hw _) (hk _))
 exact dV.steps ⟨.value v',v',w,E',h1,.inl rfl,m1,m2,h3,h2⟩
theorem a0e {C:FuncId->List At->List Ctr} (hC:∀ g ts,∀ c ∈ C g ts,aJ P g c) {T:Told} (hN:∀ g ts,∀ c ∈ T.nc g ts,NOk P g c) {k:Operand->K} {a:Act} {o:Oper} {vc:List Cd} {kk:K} {l:List (Nat × Res)} (h:qI P C T ρ k o.dst o.op=some (vc,kk,l)) (hv:dH vc) (hM:Mem E ρ W w) (hw:∀ x,(k x).wf ρ) (hk:∀ x,(k x).holds E ρ w (a.eval x)) (hwf:∀ vc' kk',fG P k o.op=some (vc',kk')->kk'.wf ρ):DU P E ρ W w o a kk l:=by
 unfold qI at h;split at h
 ·rename_i vc' kk' hp;simp only[ah,ak] at h;obtain⟨rfl,rfl,rfl⟩:=h;obtain⟨v,h1,h2⟩:=a9a hp hv hk;exact dV.steps ⟨.value v,v,w,E,h1,.inl rfl,hM,Ext.refl _ _ _,hwf _ _ hp,h2⟩
 ·split at h
  ·rename_i vc' kk' hp;simp only[ah,ak] at h;obtain⟨rfl,rfl,rfl⟩:=h;obtain⟨⟨v,h1,h2⟩,h3⟩:=(yR hp).elim (fun hp=>a4f (ρ:=ρ) hp hk) (fun hp=>(yR hp).elim (fun hp=>b5p (ρ:=ρ) hp hk) (fun hp=>a2j (ρ:=ρ) hp hv hk));exact dV.steps ⟨.value v,v,w,E,h1,.inl rfl,hM,Ext.refl _ _ _,h3,h2⟩
  ·split at h
   ·rename_i r hb;simp only[ah] at h;subst h;exact(a9U hb hM hw hk).steps
   ·split at h
    ·rename_i vc' kk' hp;simp only[ah,ak] at h;obtain⟨rfl,rfl,rfl⟩:=h;obtain⟨⟨v,h1,h2⟩,h3⟩:=b6Z hp hv hM hw hk;exact dV.steps ⟨.value v,v,w,E,h1,.inl rfl,hM,Ext.refl _ _ _,h3,h2⟩
    ·split at h
     ·rename_i r hb;simp only[ah] at h;subst h;exact(b7G hb hv hM hw hk).steps
     ·split at h
      ·rename_i r hb;simp only[ah] at h;subst h;exact(b5W hb hv hM hw hk).steps
      ·split at h
       ·rename_i r hb;simp only[ah] at h;subst h;exact(b3w hb hv hM hw hk).steps
       ·split at h
        ·rename_i r hb;simp only[ah] at h;subst h;exact b1i hb hv hM hw hk
        ·split at h
         ·rename_i r hb;simp only[ah] at h;subst h;exact a8f hN hb hv hM hw hk
         ·split at h
          ·rename_i r hb;simp only[ah] at h;subst h;exact(a8o hb hv hM hw hk).steps
          ·exact a8g hC h hv hM hw hk
end
end
section
set_option linter.unusedSimpArgs false
set_option linter.unusedVariables false
section
variable {P:Program} {E:Env} {ρ:Nat->Res} {W w:World}
def gOp (P:Program) (T:Told) (k:Operand->K):Op->PK
 | .buildSlice t len parts=>if parts.size=len&&len==0 then (match a2o P T t with
  | some ty=>match sliceB P t ty 0 with
   | some _=>some ([],.val (.lf .esl) ())
   | none=>none
  | none=>none) else none
 | .call { callee:=.builtin .append,args:=xs,argTypes:=ts }=>match xs.toList,ts.toList with
  | [s,x],[t,t']=>if t=t' then (match k s,k x with
   | .val (.lf .esl) _,.val (.list ty) ys=>match sliceB P t ty 0 with
    | some e=>if FN P e then some ([List.length (α:=ty.den) ys<=1000000000],.val (.nls ty) (some ys)) else none
    | none=>none
   | _,_=>none) else none
  | _,_=>none
 | _=>none
theorem b9E {T:Told} {k:Operand->K} {ev:Operand->Value} {o:Oper} {vc:List Cd} {kk:K} (h:gOp P T k o.op=some (vc,kk)) (hv:dH vc) (hM:Mem E ρ W w) (hk:∀ x,(k x).holds E ρ w (ev x)):dV P E ρ W w o ev kk []:=by
 cases ho:o.op<;>rw[ho] at h<;>try (simp[gOp] at h;done)
 case buildSlice t len parts =>
  simp only[gOp] at h;split at h<;>try(cases h;done)
  rename_i hidx;simp only[ay,jo,jc] at hidx;split at h<;>try(cases h;done)
  rename_i ty het;split at h<;>try(cases h;done)
  rename_i e hsb;simp only[ah,ak] at h;obtain⟨_,rfl⟩:=h;obtain⟨hs,h0⟩:=hidx;rw[h0] at hs;have hp0:parts=#[]:=Array.eq_empty_of_size_eq_zero hs;subst hp0;subst h0;have hb:Below w.heap.size w (w.alloc (.cells #[] e)):=(gy _ _).alloc (aj _) _;have hrun:=run_buildSlice (P:=P) (w:=w) (t:=t) (ty:=ty) (xs:=[]) (vs:=[]) (ps:=[]) (n:=0) hsb rfl .nil;obtain⟨m1,m2⟩:=hM.grows hb;exact dV.of (s:=Instr.buildSlice t 0 #[]) (by simp[execOp,ho]) ⟨.slice (some ⟨w.heap.size,0,none⟩) 0 0,w.alloc (.cells #[] e),E,hrun,m1,m2,trivial,[.slice (some ⟨w.heap.size,0,none⟩) 0 0],rfl,w.heap.size,rfl⟩
 case call c =>
  obtain⟨cl,xs,ts⟩:=c;cases cl<;>try (simp[gOp] at h;done)
  rename_i bi;cases bi<;>try (simp[gOp] at h;done)
  simp only[gOp] at h;split at h<;>try(cases h;done)
  rename_i s x t t' hxs hts;split at h<;>try(cases h;done)
  rename_i htt;subst htt;split at h<;>try(cases h;done)
  rename_i ks kx u ty ys hs hx;split at h<;>try(cases h;done)
  rename_i e hsb;split at h<;>try(cases h;done)
  rename_i hfew;simp only[ah,ak] at h;obtain⟨rfl,rfl⟩:=h;have hlen:List.length (α:=ty.den) ys<=1000000000:=hv.1;have c8S:xs=#[s,x]:=Dw hxs;have c8Q:ts=#[t,t]:=Dw hts;subst c8S;subst c8Q;have k1:=hk s;rw[hs] at k1;have k2:=hk x;rw[hx] at k2;obtain⟨cs1,e1,b,rfl⟩:=k1;obtain⟨p,cap,hvx,hx2,hx3,hx4⟩:=uT k2;obtain⟨h1,h2,h3,h4,i,z,h5,h6,h7⟩:=jS hsb;have a2L:i.bytes<=100000:=by unfold FN at hfew;rw[h5] at hfew;simpa using hfew
  have e1:ev s=.slice (some ⟨b,0,none⟩) 0 0:=e1;refine dV.of (kS ho) ?_;by_cases hy:(ys:List ty.den)=[]
  ·subst hy;refine⟨.slice (some ⟨b,0,none⟩) 0 0,w,E,?_,hM,Ext.refl _ _ _,trivial,[.slice (some ⟨b,0,none⟩) 0 0],rfl,.inr ⟨[],b,0,0,[],rfl,rfl,by simp,by omega,.inl rfl⟩⟩;rw[e1,hvx];cases p with
   | none=>simp[Builtin.append_,ku h1 w,sizeOf,typeInfo,h5,Builtin.lenOf,Builtin.firstCells,eu,storeCells]
   | some a=>simp[Builtin.append_,ku h1 w,sizeOf,typeInfo,h5,Builtin.lenOf,Builtin.firstCells,loadCells,loadCellsFrom,eu,storeCells]
  ·have hlp:0<List.length (α:=ty.den) ys:=yc.2 hy;rcases hx4 with hx4|⟨b',o',ds,rfl,hrg,hds⟩
   ·exact absurd hx4 hy
   have hdl:ds.length=List.length (α:=ty.den) ys*ty.n:=oL (fun c y=>dL ty c y) _ _ hds;have hbytes:List.length (α:=ty.den) ys*i.bytes<=281474976710656:=by have h9:List.length (α:=ty.den) ys*i.bytes<=1000000000*100000:=uy hlen a2L;omega
   have hrun:=run_append_grow (P:=P) w t o.type e i z h1 h5 h6 ⟨b,0,none⟩ 0 0 [] (by simp) (by simp) ⟨b',o',none⟩ (List.length (α:=ty.den) ys) cap ds (by rw[h7];exact hdl) (fun j u hu=>by rw[Ba];exact hrg j u hu) (by omega) (by omega) (by rw[qg,nextslicecap_zero hlp];exact hbytes);rw[qg] at hrun;generalize hcap:grownCap w (List.length (α:=ty.den) ys) 0 e=gc at hrun;generalize hzz:Builtin.zeroCells z.cells (gc-List.length (α:=ty.den) ys)=zz at hrun;have hgc:List.length (α:=ty.den) ys<=gc:=hcap ▸ grownCap_ge w _ 0 e;have hgm:gc<=maxLen:=hcap ▸ grownCap_le_maxLen w _ 0 e (by simp only[maxLen];omega);have hb:Below w.heap.size w (w.drew.alloc (.cells ([].toArray++ds.toArray++zz) e)):=(gy _ _).drew.alloc (aj _) _;have hcell:(w.drew.alloc (.cells ([].toArray++ds.toArray++zz) e)).heap[w.heap.size]?=some (.cells ([].toArray++ds.toArray++zz) e (0,0)):=Dj w.drew _;obtain⟨m1,m2⟩:=hM.grows hb;rw[e1,hvx];refine⟨_,_,E,hrun,m1,m2,trivial,[.slice (some ⟨w.heap.size,0,none⟩) (List.length (α:=ty.den) ys) gc],rfl,.inr ⟨ys,w.heap.size,0,gc,ds,rfl,rfl,hgc,by simp only[maxLen] at hgm;omega,.inr ⟨sH ((Ah.1 hcell).1) (hM.base _ (.inr hM.below.size)) (fun r' j9 e9=>?_),fun j u hu=>?_,aZ (fun c y=>bY m2.fz m2.stay ty c y) _ _ hds⟩⟩⟩
   ·have:=hM.lt e9;omega
   ·rw[qg,yg _ _ _ _ _ _ hcell];obtain⟨hj,rfl⟩:=jy.1 hu;simp[Array.getElem?_append,hj]
end
end
end Go.Proofs.YtbkocjmmbkifjaaGreat
