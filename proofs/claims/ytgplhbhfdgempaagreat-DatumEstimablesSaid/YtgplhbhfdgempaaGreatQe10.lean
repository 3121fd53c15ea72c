/-
  Lemmas for the theorem vestimables_holds, part 10 of 36.
-/
import Derived.Test.YtgplhbhfdgempaaGreatQe09
namespace Go.Proofs.YtgplhbhfdgempaaGreat
open Go Go.RowKit
theorem gy:type_of% @List.length_range:=@List.length_range
theorem Ak:type_of% @List.length_drop:=@List.length_drop
theorem Dj:type_of% @Nat.add_sub_cancel_left:=@Nat.add_sub_cancel_left
section
set_option linter.unusedSimpArgs false
set_option linter.unusedVariables false
inductive LK where
 | row (e:TypeId) (t:Ty)
 | mat (e e2:TypeId) (t:Ty)
def LK.el:LK->Ty
 | .row _ t=>t
 | .mat _ _ t=>t
def LK.ty:LK->Ty
 | .row _ t=>.list t
 | .mat _ _ t=>.list (.list t)
def LK.res:(k:LK)->k.ty.den->Nat->Res
 | .row e t,xs,v=>.row e t xs v
 | .mat e e2 t,xss,v=>.mat e e2 t none xss v
inductive BJ where
 | mk (k:LK) (args:List Ty) (pre:(nest args).den->Prop) (made:(nest args).den->k.ty.den)
 | chg (k:LK) (args res:List Ty) (pre:k.ty.den->(nest args).den->Prop) (out:k.ty.den->(nest args).den->k.ty.den) (fn:k.ty.den->(nest args).den->(nest res).den)
structure Told where
 ty:TypeId->Option Ty
 el:TypeId->Option Ty
 wr:Nat->Bool
 kb:Nat->Bool
 mt:Nat->Option Ty
 nc:FuncId->List BJ
abbrev MK:=Option (List Prop × K × List (Nat × Res))
def after (ρ:Nat->Res):List (Nat × Res)->Nat->Res
 | []=>ρ
 | (r,x)::l=>after (bV ρ r x) l
def Res.isNone:Res->Bool
 | .none=>true
 | _=>false
def a0a (t:Ty):K:=match t with
 | .list _=>.nil
 | t=>.val t t.zero
def b4e (T:Told) (r:Nat) (k:K):MK:=if k.one then some ([],.nV r,[(r,.mX k)]) else none
def a1c (T:Told) (r:Nat) (t:Ty) (x:t.den):MK :=
 if T.wr r then (if t.still then some ([],.ptr r 0,[(r,.box (flat t x))]) else none) else some ([],.val (.ref t) x,[])
def a2l (P:Program) (s:TypeId) (i:Nat):Option Nat:=match P.underlying s with
 | some (.struct fs)=>match fs[i]? with
  | some f=>match P.info? f.type with
   | some j=>if j.size=0 then none else some f.offset
   | none=>none
  | none=>none
 | _=>none
def a6a (P:Program) (s:TypeId) (i:Int):Option Nat:=match P.underlying s with
 | some (.array n e)=>match P.info? e,i with
  | some j,.ofNat k=>if k<n then some (k*j.size) else none
  | _,_=>none
 | _=>none
def wF (ρ:Nat->Res):K->Option (Part × List (Nat × Res))
 | .val t x=>some (⟨t,x⟩,[])
 | .own r v=>match ρ r with
  | .row _ t xs v'=>if gv v=gv v' then some (⟨.list t,xs⟩,[(r,.fro t xs v')]) else none
  | .fro t xs v'=>if gv v=gv v' then some (⟨.list t,xs⟩,[]) else none
  | .mat _ _ t none xss v'=>if gv v=gv v' then some (⟨.list (.list t),xss⟩,[(r,.fro (.list t) xss v')]) else none
  | _=>none
 | .mrow r v i=>match ρ r with
  | .mat _ _ t none xss v'=>if v=v' then some (⟨.list t,List.getD (α:=List t.den) xss i []⟩,[(r,.fro (.list t) xss v)]) else none
  | _=>none
 | _=>none
def yT (ρ:Nat->Res) (t:Option Ty):K->Option (Part × List (Nat × Res))
 | .nil=>match t with
  | some (.list t)=>some (⟨.list t,[]⟩,[])
  | _=>none
 | k=>wF ρ k
def a4A (P:Program) (T:Told) (t:TypeId) (ps:List Part) (o:Nat):Option Part:=match OU ps o with
 | some (_,p::qs)=>if fitsT P t p.t then some p else (match T.ty t with
  | some ty=>match pack ty (p::qs) with
   | some (q,_)=>if fitsT P t q.t then some q else none
   | none=>none
  | none=>none)
 | _=>none
def b2q (P:Program) (t:TypeId):List Part->Nat->Option Part
 | [],_=>none
 | p::ps,o=>if p.t.n<=o then b2q P t ps (o-p.t.n) else match KC p.t p.x (if o=0 then 0 else 1) with
  | some (o',q)=>if o'=o/\fitsT P t q.t=true then some q else none
  | none=>none
def a6y (P:Program) (T:Told) (t:TypeId) (ps:List Part) (o:Nat):Option Part:=match a4A P T t ps o with
 | some p=>some p
 | none=>b2q P t ps o
def a5s (P:Program) (t:TypeId) (ps:List Part) (o:Nat) (p:Part):Option (List Part):=match OU ps o with
 | some (a,b)=>match OU b p.t.n with
  | some (_,c)=>if fitsT P t p.t&&p.t.still then some (a++flat p.t p.x++c) else none
  | none=>none
 | none=>none
def sJ (P:Program) (T:Told) (ρ:Nat->Res) (k:Operand->K) (d:Option Nat):Op->MK
 | .alloc t=>match d,T.ty t with
  | some r,some ty=>if (ρ r).isNone&&ZY P t ty then (if T.kb r then b4e T r (a0a ty) else a1c T r ty ty.zero) else none
  | _,_=>none
 | .box t x=>match d,yT ρ (T.ty t) (k x) with
  | some r,some (p,l)=>if (ρ r).isNone&&l.isEmpty then a1c T r p.t p.x else none
  | _,_=>none
 | .load t x=>match k x with
  | .ptr r o=>match ρ r with
   | .box ps=>(a6y P T t ps o).map fun p=>([],.val p.t p.x,[])
   | _=>none
  | _=>none
 | .store t x y=>match k x,yT ρ (T.ty t) (k y) with
  | .ptr r o,some (p,l)=>match ρ r with
   | .box ps=>match a5s P t ps o p with
    | some qs=>some ([],.any,l++[(r,.box qs)])
    | none=>none
   | _=>none
  | _,_=>none
 | .fieldAddr s x i=>match k x with
  | .ptr r o=>match ρ r with
   | .box _=>(a2l P s i).map fun q=>([],.ptr r (o+q),[])
   | _=>none
  | _=>none
 | .indexAddr s x i=>match k x,k i with
  | .ptr r o,.val (.int _) n=>match ρ r with
   | .box _=>(a6a P s n).map fun q=>([],.ptr r (o+q),[])
   | _=>none
  | _,_=>none
 | _=>none
def fO (P:Program) (E:Env) (ρ:Nat->Res) (W w:World) (o:Oper) (ev:Operand->Value) (k:K) (l:List (Nat × Res)):Prop :=
 ∃ nx v w' E',(execOp ev o).run P w=.ok nx w'/\(nx=.value v\/nx=.skip/\v=undef)/\Mem E' (after ρ l) W w'/\Ext E ρ w E' (after ρ l) w'/\k.wf (after ρ l)/\k.holds E' (after ρ l) w' v
section
variable {P:Program} {E:Env} {ρ:Nat->Res} {W w:World}
theorem fO.of {s:Sem Value} {o:Oper} {ev:Operand->Value} {kk:K} {l:List (Nat × Res)} (he:execOp ev o=(do pure (.value (<-s)))) (h:∃ v w' E',s.run P w=.ok v w'/\Mem E' (after ρ l) W w'/\Ext E ρ w E' (after ρ l) w'/\kk.wf (after ρ l)/\kk.holds E' (after ρ l) w' v):fO P E ρ W w o ev kk l:=by
 obtain⟨v,w',E',h1,h2⟩:=h
 exact⟨.value v,v,w',E',by rw[he,jc,h1];simp,.inl rfl,h2⟩
theorem Res.nT {x:Res} (h:x.isNone=true):x=.none:=by cases x<;>simp_all [Res.isNone]
theorem YS (T:Told) {r:Nat} {ty:Ty} {x:ty.den} {cs:List Value} (hM:Mem E ρ W w) (hn:(ρ r).isNone=true) (hr:rep (fz w E) w ty cs x) (t:TypeId) {vc:List Prop} {kk:K} {l:List (Nat × Res)} (h:a1c T r ty x=some (vc,kk,l)) :
  ∃ E',Mem E' (after ρ l) W (w.alloc (.cells cs.toArray t))/\Ext E ρ w E' (after ρ l) (w.alloc (.cells cs.toArray t))/\kk.wf (after ρ l)/\kk.holds E' (after ρ l) (w.alloc (.cells cs.toArray t)) (.pointer (some ⟨w.heap.size,0,none⟩)):=by
 have hb:Below w.heap.size w (w.alloc (.cells cs.toArray t)):=(dw _ _).alloc (aj _) _
 have hc:(w.alloc (.cells cs.toArray t)).heap[w.heap.size]?=some (.cells cs.toArray t (0,0)):=Dl w _
 have hrn:(w.alloc (.cells cs.toArray t)).rangeAt w.heap.size 0 cs:=fun j v hv=>by
  simp_all
 unfold a1c at h
 split at h
 ·split at h<;>try(cases h;done)
  rename_i hs
  obtain⟨_,rfl,rfl⟩:=h
  have hρ:=Res.nT hn
  obtain⟨h1,h2⟩:=hM.turn (w':=w.alloc (.cells cs.toArray t)) r (lG.below hb _) (some w.heap.size) undef (.box (flat ty x))
   ⟨w.heap.size,cs,t,by show bV E.blk r _ r=_;rw[aG],hc,KD ty x cs hs (dF (CP (ρ:=ρ) hb.size (.inr (.inr rfl))) (lG.below (E:=E) hb (fun _=>False)).stay ty _ _ hr)⟩ (.inr (.inr rfl)) rfl (fun k e=>by cases e) (fun h=>by rw[hρ] at h;exact h.elim) (fun h=>by rw[hρ] at h;exact h.elim) (fun v h=>by rw[hρ] at h;exact h.elim) (fun v h=>by rw[hρ] at h;exact h.elim) (fun v h=>h.elim)
  refine⟨_,h1,h2,?_,⟨w.heap.size,?_,rfl⟩⟩
  ·show Res.pV (bV ρ r _ r);rw[aG];trivial
  ·show bV E.blk r _ r=_;rw[aG]
 ·simp only[ah] at h
  obtain⟨_,rfl,rfl⟩:=h
  obtain⟨h1,h2⟩:=hM.grows hb
  refine⟨E,h1,h2,trivial,QZ (ρ:=ρ) (uD (by simp) (hM.base _ (.inr hM.below.size)) (fun r' j e=>?_)) hrn (dF h2.fz h2.stay ty _ _ hr)⟩
  have:=hM.lt e;omega
theorem one_cell {k:K} {v:Value} (ho:k.one=true) (hk:k.holds E ρ w v) (hw:∀ r ver,k=.own r ver->Res.isRow ver (ρ r)) (hM:Mem E ρ W w):dK v=true/\v.cells=#[v]:=by
 cases k with
 | val t x =>
  simp only[K.one,ak,mg,ay] at ho
  obtain⟨⟨h1,h2⟩,h3⟩:=ho
  obtain⟨cs,hv,hr⟩:=hk
  have hl:=dX t cs x hr
  rw[h3] at hl
  match cs,hl with
  | [u],_ =>
   have hu:v=u:=by rw[hv];unfold Ty.toV;rw[h1];rfl
   subst hu
   refine⟨zO t h2 [v] x hr v (by simp),?_⟩
   have:=pW t [v] x hr
   grind
 | nil=>rw[show v=_ from hk];exact⟨by decide,rfl⟩
 | ptr r o=>obtain⟨b,_,rfl⟩:=hk;exact⟨by simp[dK,bM,Value.oneCell'],rfl⟩
 | own r ver =>
  have h1:=hw r ver rfl
  have h2:v=E.sl r:=hk h1
  have key:∃ p n c,E.sl r=.slice p n c:=by
   have h3:=hM.res r
   have ow:∀ {e n v m cs},w.ownsRow 0 e n v m cs->∃ p n c,v=.slice p n c:=fun {e n v m cs} h=>by
    rcases h.2 with⟨rfl,_⟩|⟨g,cap,cur,rfl,_⟩
    ·grind
    ·grind
   cases hx:ρ r with
   | row e t xs v'=>rw[hx] at h3;obtain⟨_,_,cs,k3,_⟩:=h3;exact ow k3
   | mat e e2 t ids xss v'=>rw[hx] at h3;obtain⟨_,_,⟨cs,k3,_⟩,_⟩:=h3;exact ow k3
   | fro t xs v'=>rw[hx] at h3;obtain⟨_,cs,e1,p,c,e2,_⟩:=h3;rw[e1,e2];exact⟨_,_,_,rfl⟩
   | _=>rw[hx] at h1;exact h1.elim
  obtain⟨p,n,c,e⟩:=key
  rw[h2,e];exact⟨by simp[dK,bM,Value.oneCell'],rfl⟩
 | _=>simp[K.one] at ho
theorem b4f {T:Told} {r:Nat} {k:K} {v:Value} (hM:Mem E ρ W w) (hn:(ρ r).isNone=true) (hwf:k.wf ρ) (hk:k.holds E ρ w v) (hown:∀ r' ver,k=.own r' ver->Res.isRow ver (ρ r')) (t:TypeId) {vc:List Prop} {kk:K} {l:List (Nat × Res)} (h:b4e T r k=some (vc,kk,l)) :
  ∃ E',Mem E' (after ρ l) W (w.alloc (.cells #[v] t))/\Ext E ρ w E' (after ρ l) (w.alloc (.cells #[v] t))/\kk.wf (after ρ l)/\kk.holds E' (after ρ l) (w.alloc (.cells #[v] t)) (.pointer (some ⟨w.heap.size,0,none⟩)):=by
 unfold b4e at h
 split at h<;>try(cases h;done)
 rename_i ho
 obtain⟨_,rfl,rfl⟩:=h
 have hρ:=Res.nT hn
 have hb:Below w.heap.size w (w.alloc (.cells #[v] t)):=(dw _ _).alloc (aj _) _
 have hc:(w.alloc (.cells #[v] t)).heap[w.heap.size]?=some (.cells #[v] t (0,0)):=Dl w _
 obtain⟨h1,h2⟩:=hM.GX (w':=w.alloc (.cells #[v] t)) r (lG.below hb _) (some w.heap.size) undef (fun _=>undef) (.mX k) trivial (fun q hq=>by
   rcases hq with hq|⟨i,hq⟩
   ·grind
   ·cases hq) (fun q i _ hq=>by cases hq) (fun i i' q hq=>by cases hq) (fun i _=>rfl) (fun h=>by rw[hρ] at h;exact h.elim) (fun h=>by rw[hρ] at h;exact h.elim) (fun v h=>by rw[hρ] at h;exact h.elim) (fun v h=>by rw[hρ] at h;exact h.elim) (fun v _ h=>h.elim) (fun hX k' e=>by
   cases e
   exact⟨hX.wf k hwf,ho,w.heap.size,v,t,by show bV E.blk r _ r=_;rw[aG],hc,(one_cell ho hk hown hM).1,hX.holds k v hwf hk⟩)
 refine⟨_,h1,h2,?_,fun _=>⟨w.heap.size,?_,rfl⟩⟩
 ·show Res.FU (bV ρ r _ r);rw[aG];trivial
 ·show bV E.blk r _ r=_;rw[aG]
theorem lZ {E:Env} {F:Nat->Prop} {w:World} {e:TypeId} {t:Ty} {v:Value} {xs:List t.den} {cs:List Value} (h:w.ownsRow 0 e t.n v xs.length cs) (hc:chunks (rep F w t) cs xs) (hF:∀ g,bW v=some g->F g):kE F w (.list t) v xs:=by
 obtain⟨j1,j2⟩:=h
 rcases j2 with⟨j2,j3⟩|⟨g,cap,cur,e1,e2,e3,e4,e5,e6,e7⟩
 ·have:xs=[]:=oz j3
  subst this
  exact⟨[.slice none 0 0],j2,none,0,rfl,by simp,by omega,.inl rfl⟩
 ·refine⟨[v],rfl,some ⟨g,0,none⟩,cap,by rw[e1],e4,by simp only[maxLen] at e5;omega,?_⟩
  refine .inr ⟨g,0,cs,rfl,hF g (by rw[e1];rfl),fun j u hu=>?_,hc⟩
  rw[um,zq w g j cur _ _ e3]
  grind
theorem wG {α:Type} {R:List Value->α->Prop}:∀ (xs:List α) (f:Nat->Value),(∀ i x,xs[i]?=some x->R [f i] x)->chunks R ((List.range xs.length).map f) xs
 | [],f,h=>rfl
 | x::xs,f,h=>by
  refine⟨[f 0],(List.range xs.length).map (fun i=>f (i+1)),?_,h 0 x rfl,wG xs (fun i=>f (i+1)) (fun i y hi=>h (i+1) y (by simpa using hi))⟩
  rw[List.length_cons,List.range_succ_eq_map,yx,List.map_map]
  rfl
theorem getD_at {α:Type} (l:List α) (d:α) (i:Nat) (h:i<l.length):l[i]?=some (l.getD i d):=by grind
theorem TN {r ver:Nat} {e e2:TypeId} {t:Ty} {xss:List (List t.den)} (hM:Mem E ρ W w) (hr:ρ r=.mat e e2 t none xss ver) :
  Mem (E.put r none (E.sl r)) (bV ρ r (.fro (.list t) xss ver)) W w/\Ext E ρ w (E.put r none (E.sl r)) (bV ρ r (.fro (.list t) xss ver)) w/\kE (fz w (E.put r none (E.sl r))) w (.list (.list t)) (E.sl r) xss/\∀ i xs,xss[i]?=some xs->kE (fz w (E.put r none (E.sl r))) w (.list t) (E.inn r i) xs:=by
 have hgo:lG E w w (fun q=>q=r):=⟨rfl,rfl,rfl,aj _,fun _ _ _=>rfl,fun _ _ _ h=>h⟩
 have h1:=hM.res r
 rw[hr] at h1
 obtain⟨k1,k2,⟨cs,k3,k4,k5⟩,k6,k7,k8⟩:=h1
 have hF:=CP (ρ:=ρ) (w':=w) (E:=E) (r:=r) (s:=E.sl r) (aj _) (.inl rfl)
 have hfz:∀ j g,E.has r j g->fz w (E.put r none (E.sl r)) g:=fun j g hh=>by
  refine uD (hM.lt hh) (hM.base _ (hM.mine r j g hh)) (fun r' j' e'=>?_)
  unfold Env.put at e'
  rw[oN] at e'
  split at e'
  ·cases j' with
   | zero=>cases e'
   | succ i=>cases e'
  ·rename_i hne
   exact hne (hM.inj _ _ _ _ _ e' hh).1
 have hlen:(aV (α:=List t.den) none xss).length=List.length (α:=(Ty.list t).den) xss:=by simp only[aV,gy];rfl
 rw[hlen] at k3
 have hrow:∀ i xs,xss[i]?=some xs->kE (fz w (E.put r none (E.sl r))) w (.list t) (E.inn r i) xs:=fun i xs hi=>by
  obtain⟨ds,q1,q2,q3⟩:=k8 i xs hi
  exact lZ (E:=E) (F:=fz w (E.put r none (E.sl r))) q1 (aX (fun c y=>dF hF (jZ.refl _ _) t c y) _ _ q2) (fun g hg=>hfz (i+1) g hg)
 have hvr:kE (fz w (E.put r none (E.sl r))) w (.list (.list t)) (E.sl r) xss:=lZ (E:=E) (t:=.list t) k3 (by
  rw[k4]
  refine wG _ _ (fun i xs hi=>?_)
  obtain⟨cs9,e9,r9⟩:=hrow i xs hi
  have r8:=r9
  obtain⟨p9,c9,e8,_⟩:=r9
  have e7:cs9=[E.inn r i]:=by
   have:E.inn r i=cs9.headD undef:=e9
   grind
  rw[<-e7];exact r8) (fun g hg=>hfz 0 g (k1.trans hg))
 obtain⟨h2,h3⟩:=hM.turn (w':=w) r hgo none (E.sl r) (.fro (.list t) xss ver) ⟨by show bV E.blk r none r=_;rw[aG],by show kE _ w _ (bV E.sl r _ r) _;rw[aG];exact hvr⟩ (.inl rfl) rfl (fun k e=>by cases e) (fun h=>by rw[hr] at h;exact h.elim) (fun h=>by rw[hr] at h;exact h.elim) (fun v' hv'=>by rw[hr] at hv';exact hv') (fun v' _ hv'=>⟨by rw[hr];exact hv',rfl,by rw[hr];rfl⟩) (fun v' h=>h.elim)
 grind
theorem a7y {k:K} {p:Part} {l:List (Nat × Res)} {v:Value} (h:wF ρ k=some (p,l)) (hM:Mem E ρ W w) (hw:k.wf ρ) (hk:k.holds E ρ w v) :
  ∃ E',Mem E' (after ρ l) W w/\Ext E ρ w E' (after ρ l) w/\kE (fz w E') w p.t v p.x:=by
 cases k<;>try (simp[wF] at h;done)
 case val t x =>
  obtain⟨rfl,rfl⟩:=h
  exact⟨E,hM,Ext.refl _ _ _,hk⟩
 case own r ver =>
  simp only[wF] at h
  have hgo:lG E w w (fun q=>q=r):=⟨rfl,rfl,rfl,aj _,fun _ _ _=>rfl,fun _ _ _ h=>h⟩
  split at h<;>try(cases h;done)
  ·rename_i e t xs v' hr
   split at h<;>try(cases h;done)
   rename_i hv0
   obtain⟨rfl,rfl⟩:=h
   have hv:v=E.sl r:=hk (by rw[hr];exact hv0.symm)
   have h1:=hM.res r
   rw[hr] at h1
   obtain⟨k1,k2,cs,k3,k4,k5⟩:=h1
   have hF:=CP (ρ:=ρ) (w':=w) (E:=E) (r:=r) (s:=E.sl r) (aj _) (.inl rfl)
   have hvr:kE (fz w (E.put r none (E.sl r))) w (.list t) (E.sl r) xs:=lZ (E:=E) k3 (aX (fun c y=>dF hF (jZ.refl _ _) t c y) _ _ k4) (fun g hg=>by
    have hh:E.has r 0 g:=k1.trans hg
    refine uD (hM.lt hh) (hM.base _ (hM.mine r 0 g hh)) (fun r' j e'=>?_)
    unfold Env.put at e'
    rw[oN] at e'
    split at e'
    ·cases j with
     | zero=>cases e'
     | succ i=>cases e'
    ·rename_i hne
     exact hne (hM.inj _ _ _ _ _ e' hh).1)
   obtain⟨h2,h3⟩:=hM.turn (w':=w) r hgo none (E.sl r) (.fro t xs v') ⟨by show bV E.blk r none r=_;rw[aG],by show kE _ w _ (bV E.sl r _ r) _;rw[aG];exact hvr⟩ (.inl rfl) rfl (fun k e=>by cases e) (fun h=>by rw[hr] at h;exact h.elim) (fun h=>by rw[hr] at h;exact h.elim) (fun v9 hv'=>by rw[hr] at hv';exact hv') (fun v9 _ hv'=>⟨by rw[hr];exact hv',rfl,by rw[hr];rfl⟩) (fun v9 h=>h.elim)
   exact⟨_,h2,h3,by rw[hv];exact hvr⟩
  ·rename_i t xs v' hr
   split at h<;>try(cases h;done)
   rename_i hv0
   obtain⟨rfl,rfl⟩:=h
   have hv:v=E.sl r:=hk (by rw[hr];exact hv0.symm)
   have h1:=hM.res r
   rw[hr] at h1
   exact⟨E,hM,Ext.refl _ _ _,by rw[hv];exact h1.2⟩
  ·rename_i e e2 t xss v' hr
   split at h<;>try(cases h;done)
   rename_i hv0
   obtain⟨rfl,rfl⟩:=h
   have hv:v=E.sl r:=hk (by rw[hr];exact hv0.symm)
   obtain⟨h2,h3,h4,_⟩:=TN hM hr
   exact⟨_,h2,h3,by rw[hv];exact h4⟩
 case mrow r ver i =>
  simp only[wF] at h
  split at h<;>try(cases h;done)
  rename_i e e2 t xss v' hr
  split at h<;>try(cases h;done)
  rename_i hv
  subst hv
  obtain⟨rfl,rfl⟩:=h
  have hv:v=E.inn r i:=hk (by rw[hr];rfl)
  have hi:=hw.2 (by rw[hr];rfl)
  rw[hr] at hi
  obtain⟨h2,h3,_,h5⟩:=TN hM hr
  refine⟨_,h2,h3,?_⟩
  rw[hv]
  have h6:=h5 i (List.getD (α:=List t.den) xss i []) (getD_at _ _ _ hi)
  exact h6
theorem sD {k:K} {t:Option Ty} {p:Part} {l:List (Nat × Res)} {v:Value} (h:yT ρ t k=some (p,l)) (hM:Mem E ρ W w) (hw:k.wf ρ) (hk:k.holds E ρ w v) :
  ∃ E',Mem E' (after ρ l) W w/\Ext E ρ w E' (after ρ l) w/\kE (fz w E') w p.t v p.x:=by
 cases k
 case nil =>
  simp only[yT] at h
  split at h<;>try(cases h;done)
  obtain⟨rfl,rfl⟩:=h
  exact⟨E,hM,Ext.refl _ _ _,[.slice none 0 0],hk,none,0,rfl,by simp,by omega,.inl rfl⟩
 all_goals exact a7y (by simpa only[yT] using h) hM hw hk
end
end
section
set_option linter.unusedSimpArgs false
set_option linter.unusedVariables false
section
variable {P:Program} {E:Env} {ρ:Nat->Res} {W w:World}
theorem a8e {T:Told} {t:TypeId} {ps:List Part} {o:Nat} {p:Part} {F:Nat->Prop} {cs:List Value} (h:a4A P T t ps o=some p) (hc:chunks (jI F w) cs ps):fitsT P t p.t=true/\∃ c,(cs.drop o).take c.length=c/\rep F w p.t c p.x:=by
 unfold a4A at h
 split at h<;>try(cases h;done)
 rename_i a p1 qs hd
 obtain⟨rfl,rfl⟩:=vH ps o _ _ hd
 obtain⟨c1,c2,rfl,k1,k2⟩:=qE hc
 have hl:=sK k1
 split at h
 ·rename_i hf
  simp only[ah] at h
  subst h
  obtain⟨c3,c4,rfl,k3,k4⟩:=k2
  exact⟨hf,c3,by rw[<-hl,Bl,Dv],k3.1⟩
 ·split at h<;>try(cases h;done)
  rename_i ty _
  split at h<;>try(cases h;done)
  rename_i q q2 hp
  split at h<;>try(cases h;done)
  rename_i hf
  simp only[ah] at h
  subst h
  obtain⟨c3,c4,rfl,k3,k4⟩:=uU ty _ _ _ _ hp k2
  exact⟨hf,c3,by rw[<-hl,Bl,Dv],k3.1⟩
theorem a7o {t:TypeId} {F:Nat->Prop}:∀ {ps:List Part} {o:Nat} {p:Part} {cs:List Value},b2q P t ps o=some p->chunks (jI F w) cs ps->fitsT P t p.t=true/\∃ c,(cs.drop o).take c.length=c/\rep F w p.t c p.x
 | [],o,p,cs,h,hc=>by simp[b2q] at h
 | p0::ps,o,p,_,h,⟨c1,c2,h1,h2,h3⟩=>by
  have hl:=h2.len
  simp only[b2q] at h
  split at h
  ·rename_i ho
   obtain⟨k1,c,k2,k3⟩:=a7o h h3
   refine⟨k1,c,?_,k3⟩
   rw[h1,List.drop_append,List.drop_eq_nil_of_le (by omega),List.nil_append,hl]
   exact k2
  ·rename_i ho
   split at h<;>try(cases h;done)
   rename_i o' q hq
   split at h<;>try(cases h;done)
   rename_i hh
   obtain⟨rfl,hf⟩:=hh
   simp only[ah] at h
   subst h
   have hr:=wJ _ _ _ _ _ c1 hq h2.1
   have hn:=dX _ _ _ hr
   refine⟨hf,_,?_,hr⟩
   rw[hn]
   rw[jq,Ak] at hn
   rw[h1,List.drop_append_of_le_length (by omega),List.take_append_of_le_length (by rw[Ak];omega)]
theorem a2T {T:Told} {t:TypeId} {ps:List Part} {o:Nat} {p:Part} {F:Nat->Prop} {cs:List Value} (h:a6y P T t ps o=some p) (hc:chunks (jI F w) cs ps):fitsT P t p.t=true/\∃ c,(cs.drop o).take c.length=c/\rep F w p.t c p.x:=by
 unfold a6y at h
 split at h
 ·rename_i p' h'
  simp only[ah] at h
  subst h
  exact a8e h' hc
 ·exact a7o h hc
theorem AV {t:TypeId} {ty:Ty} (h:fitsT P t ty=true) {b o:Nat} {ds:List Value} {F:Nat->Prop} {x:ty.den} (hs:ty.still=true) (hc:w.there b o ds.length) (hr:rep F w ty ds x):(storeVar t ⟨b,o,none⟩ (ty.toV ds)).run P w=.ok () (w.setCells b o ds):=by
 obtain⟨⟨i,hi,hn⟩,ha⟩:=iI h
 have hl:=dX ty _ _ hr
 have h1:=zO ty hs _ _ hr
 have hst:=run_storeCells_cells (P:=P) b o ds 0 w (fun j hj=>by simpa using (hc j hj).1) (fun j hj=>by simpa using (hc j hj).2) (fun v hv=>by have:=h1 v hv;simp only[dK,ak] at this;exact this.1)
 simp only[Nat.add_zero] at hst
 have hz:¬ (ty.toV ds).cells.size≠i.size:=by rw[pW ty _ _ hr];simp[hn,hl]
 unfold storeVar
 rw[jc,run_sizeOf hi]
 simp only[Result.andThen_ok,pW ty _ _ hr]
 have hz2:¬ ds.length≠i.size:=by rw[hl,hn];simp
 simp[hl,hn,hst]
theorem kN (b:Nat):∀ (vs:List Value) (o:Nat) (w:World) (cs:List Value) (e:TypeId),w.heap[b]?=some (.cells cs.toArray e (0,0))->o+vs.length<=cs.length->(w.setCells b o vs).heap[b]?=some (.cells (cs.take o++vs++cs.drop (o+vs.length)).toArray e (0,0))
 | [],o,w,cs,e,h,_=>by simpa [World.setCells] using h
 | v::vs,o,w,cs,e,h,hl=>by
  have h1:(w.setCell ⟨b,o,none⟩ v).heap[b]?=some (.cells (cs.set o v).toArray e (0,0)):=by
   simp only[World.setCell,Array.getElem?_modify,Dn,h,Option.map_some]
   simp
  simp only[List.length_cons] at hl
  have h2:=kN b vs (o+1) (w.setCell ⟨b,o,none⟩ v) (cs.set o v) e h1 (by simp;omega)
  have:w.setCells b o (v::vs)=(w.setCell ⟨b,o,none⟩ v).setCells b (o+1) vs:=by first|rfl|simp[World.setCells]
  rw[this,h2]
  have la:(cs.take o).length=o:=by rw[jq];omega
  have e9:cs.set o v=cs.take o++([v]++cs.drop (o+1)):=by rw[List.set_eq_take_append_cons_drop,ig (by omega)];rfl
  have e1:(cs.set o v).take (o+1)=cs.take o++[v]:=by
   rw[e9,List.take_append,la,jd (by omega),Dj];rfl
  have e2:(cs.set o v).drop (o+1+vs.length)=cs.drop (o+(vs.length+1)):=by
   rw[List.drop_set_of_lt (by omega)];congr 1;omega
  rw[e1,e2]
  simp
theorem a5t {r b:Nat} {cs vs:List Value} {e:TypeId} {o:Nat} (hr:E.blk r=some b) (hb:w.heap[b]?=some (.cells cs.toArray e (0,0))) (hl:o+vs.length<=cs.length) (hn:∀ v ∈ cs,bM v=true):lG E w (w.setCells b o vs) (fun q=>q=r):=by
 have hh:=kN b vs o w cs e hb hl
 have hsz:∀ (vs:List Value) (o:Nat) (w:World),(w.setCells b o vs).heap.size=w.heap.size/\(w.setCells b o vs).os=w.os/\(w.setCells b o vs).tape=w.tape/\(w.setCells b o vs).output=w.output/\∀ q,q≠b->(w.setCells b o vs).heap[q]?=w.heap[q]?:=by
  intro vs
  induction vs with
  | nil=>intro o w;exact⟨rfl,rfl,rfl,rfl,fun _ _=>rfl⟩
  | cons v vs ih =>
   intro o w
   obtain⟨h1,h2,h3,h4,h5⟩:=ih (o+1) (w.setCell ⟨b,o,none⟩ v)
   exact⟨h1.trans (by simp[World.setCell]),h2,h3,h4,fun q hq=>(h5 q hq).trans (Below.heap_setCell _ _ _ _ hq)⟩
 obtain⟨h1,h2,h3,h4,h5⟩:=hsz vs o w
 refine⟨h2,h3,h4,by omega,fun q hq hne=>h5 q (fun e=>hne r 0 rfl (by show E.blk r=some q;rw[hr,e])),fun q i n hc=>?_⟩
 by_cases e9:q=b
 ·subst e9
  rw[zq _ _ _ _ _ _ hb] at hc
  have:=hn (.int .u32 n) (by simp at hc;exact Cm hc)
  simp[bM] at this
 ·rw[<-hc]
  exact Dc (w:=w) (h5 q e9)
theorem iF {ρ:Nat->Res}:∀ (l m:List (Nat × Res)),after ρ (l++m)=after (after ρ l) m
 | [],_=>rfl
 | (r,x)::l,m=>iF l m
theorem a8G {t:TypeId} {ps qs:List Part} {o:Nat} {p:Part} {cs vs:List Value} {F:Nat->Prop} (h:a5s P t ps o p=some qs) (hc:chunks (jI F w) cs ps) (hv:rep F w p.t vs p.x) :
  fitsT P t p.t=true/\p.t.still=true/\o+vs.length<=cs.length/\chunks (jI F w) (cs.take o++vs++cs.drop (o+vs.length)) qs:=by
 unfold a5s at h
 split at h<;>try(cases h;done)
 rename_i a b hd
 split at h<;>try(cases h;done)
 rename_i m c hd2
 split at h<;>try(cases h;done)
 rename_i hf
 simp only[ak] at hf
 simp only[ah] at h
 obtain⟨rfl,h1⟩:=vH ps o _ _ hd
 obtain⟨rfl,h2⟩:=vH b _ _ _ hd2
 obtain⟨c1,c2,rfl,k1,k2⟩:=qE hc
 obtain⟨c3,c4,rfl,k3,k4⟩:=qE k2
 have l1:=sK k1
 have l3:=sK k3
 have lv:=dX _ _ _ hv
 have e1:(c1++(c3++c4)).take o=c1:=by rw[<-h1,<-l1,Dv]
 have e2:(c1++(c3++c4)).drop (o+vs.length)=c4:=by rw[<-h1,<-l1,lv,<-h2,<-l3,<-List.drop_drop,Bl,Bl]
 refine⟨hf.1,hf.2,by simp only[iy];omega,?_⟩
 rw[e1,e2,<-h]
 exact rE (rE k1 (KD _ _ _ hf.2 hv)) k4
theorem a1e {F:Nat->Prop} {cs:List Value} {ps:List Part} (h:chunks (jI F w) cs ps):∀ v ∈ cs,bM v=true:=by
 have:=EL (p:=dK) (fun c p (hp:jI F w c p)=>zO p.t hp.2 c p.x hp.1) ps cs h
 intro v hv
 have:=this v hv
 simp only[dK,ak] at this
 exact this.2
theorem a9e {T:Told} {k:Operand->K} {ev:Operand->Value} {o:Oper} {vc:List Prop} {kk:K} {l:List (Nat × Res)} (h:sJ P T ρ k o.dst o.op=some (vc,kk,l)) (hM:Mem E ρ W w) (hw:∀ x,(k x).wf ρ) (hk:∀ x,(k x).holds E ρ w (ev x)):fO P E ρ W w o ev kk l:=by
 cases ho:o.op<;>rw[ho] at h<;>try (simp[sJ] at h;done)
 case alloc t =>
  simp only[sJ] at h
  split at h<;>try(cases h;done)
  rename_i r ty hd ht
  split at h<;>try(cases h;done)
  rename_i hz
  simp only[ak] at hz
  obtain⟨i,z,c,h1,h2,h3,h4,h5⟩:=AP hz.2
  split at h
  ·have h9:=h
   unfold b4e at h9
   split at h9<;>first|(cases h9;done)|skip
   rename_i ho9
   obtain⟨u,hu,hku⟩:∃ u,c=[u]/\(a0a ty).holds E ρ w u:=by
    have hr:=AO (F:=fz w E) (w:=w) ty c h3
    cases ty<;>try (simp[a0a,K.one] at ho9;done)
    case list t9 =>
     simp only[Ty.zc,ah] at h3
     exact⟨.slice none 0 0,h3.symm,rfl⟩
    all_goals
     simp only[a0a,K.one,ak,mg,ay] at ho9
     have hl:=dX _ c _ hr
     rw[ho9.2] at hl
     match c,hl with
     | [u],_=>exact⟨u,rfl,[u],by unfold Ty.toV;rw[ho9.1.1];rfl,hr⟩
   subst hu
   obtain⟨E',k1,k2,k3,k4⟩:=b4f hM hz.1 (by unfold a0a;split<;>trivial) hku (fun r' ver e=>by unfold a0a at e;split at e<;>cases e) t h
   refine fO.of (by simp only[execOp,ho];rfl) ⟨.pointer (some ⟨w.heap.size,0,none⟩),_,E',?_,k1,k2,k3,k4⟩
   rw[show (#[u]:Array Value)=z.cells from by rw[<-Array.toArray_toList (xs:=z.cells),h4]]
   simp[Instr.alloc,zeroValue,typeInfo,h1,h2,newVar,newRow,jc]
  ·obtain⟨E',k1,k2,k3,k4⟩:=YS T hM hz.1 (AO ty c h3) t h
   refine fO.of (by simp only[execOp,ho];rfl) ⟨.pointer (some ⟨w.heap.size,0,none⟩),_,E',?_,k1,k2,k3,k4⟩
   rw[<-h4]
   simp[Instr.alloc,zeroValue,typeInfo,h1,h2,newVar,newRow,jc]
 case box t x =>
  simp only[sJ] at h
  split at h<;>try(cases h;done)
  rename_i r p l' hd ht
  split at h<;>try(cases h;done)
  rename_i hz
  simp only[ak] at hz
  obtain⟨E1,m1,m2,cs,hv,hr⟩:=sD ht hM (hw x) (hk x)
  have hl:l'=[]:=by cases l'<;>simp_all
  subst hl
  obtain⟨E',k1,k2,k3,k4⟩:=YS T m1 hz.1 hr t h
  refine fO.of (by simp only[execOp,ho];rfl) ⟨.pointer (some ⟨w.heap.size,0,none⟩),_,E',?_,k1,m2.trans k2,k3,k4⟩
  rw[hv]
  simp[Instr.box,newVar,newRow,jc,pW p.t cs p.x hr]
 case load t x =>
  simp only[sJ] at h
  split at h<;>try(cases h;done)
  rename_i r off hx
  split at h<;>try(cases h;done)
  rename_i ps hr
  simp only[je,dh] at h
  obtain⟨p,h1,_,rfl,rfl⟩:=h
  have hkx:=hk x
  rw[hx] at hkx
  obtain⟨b,hb,hp⟩:=hkx
  have hres:=hM.res r
  rw[hr] at hres
  obtain⟨b',cs,e,k1,k3,k4⟩:=hres
  rw[hb] at k1;cases k1
  obtain⟨hf,c,hc,hrep⟩:=a2T h1 k4
  have hrg:w.rangeAt b off c:=fun j v hv=>by
   rw[zq _ _ _ _ _ _ k3,<-hv]
   simp only[List.getElem?_toArray]
   rw[<-hc,List.getElem?_take,ig (by have:=(pq.1 hv).1;exact this),List.getElem?_drop]
  refine fO.of (by simp only[execOp,ho];rfl) ⟨p.t.toV c,w,E,?_,hM,Ext.refl _ _ _,trivial,c,rfl,hrep⟩
  rw[hp]
  simp only[Instr.loadAt,Instr.sureAddr,jc,Sem.run_pure,Result.andThen_ok]
  exact lD hf hrg hrep
 case store t x y =>
  simp only[sJ] at h
  split at h<;>try(cases h;done)
  rename_i r off p l' hx hy
  split at h<;>try(cases h;done)
  rename_i ps hr
  split at h<;>try(cases h;done)
  rename_i qs hs
  simp only[ah,dh] at h
  obtain⟨_,rfl,rfl⟩:=h
  have hkx:=hk x
  rw[hx] at hkx
  obtain⟨E1,m1,m2,vs,hv,hrep⟩:=sD hy hM (hw y) (hk y)
  have hr2:after ρ l' r=.box ps:=by
   cases hky:k y with
   | nil =>
    rw[hky] at hy
    simp only[yT] at hy
    split at hy<;>first|(cases hy;done)|skip
    simp only[ah,dh] at hy
    rw[<-hy.2];exact hr
   | own r2 v2 =>
    rw[hky] at hy
    simp only[yT,wF] at hy
    split at hy<;>first|(cases hy;done)|skip
    ·rename_i hr3
     split at hy<;>first|(cases hy;done)|skip
     simp only[ah,dh] at hy
     rw[<-hy.2]
     show bV ρ r2 _ r=_
     rw[aP _ _ (fun e=>by rw[<-e,hr] at hr3;cases hr3)];exact hr
    ·split at hy<;>first|(cases hy;done)|skip
     simp only[ah,dh] at hy
     rw[<-hy.2];exact hr
    ·rename_i hr3
     split at hy<;>first|(cases hy;done)|skip
     simp only[ah,dh] at hy
     rw[<-hy.2]
     show bV ρ r2 _ r=_
     rw[aP _ _ (fun e=>by rw[<-e,hr] at hr3;cases hr3)];exact hr
   | val t x =>
    rw[hky] at hy
    simp only[yT,wF,ah,dh] at hy
    rw[<-hy.2];exact hr
   | mrow r2 v2 i2 =>
    rw[hky] at hy
    simp only[yT,wF] at hy
    split at hy<;>first|(cases hy;done)|skip
    rename_i hr3
    split at hy<;>first|(cases hy;done)|skip
    simp only[ah,dh] at hy
    rw[<-hy.2]
    show bV ρ r2 _ r=_
    rw[aP _ _ (fun e=>by rw[<-e,hr] at hr3;cases hr3)];exact hr
   | _=>rw[hky] at hy;simp[yT,wF] at hy
  have c4f:=m2.holds _ _ (by have:=hw x;rwa [hx] at this) hkx
  obtain⟨b,hb,hp⟩:=c4f
  have hres:=m1.res r
  rw[hr2] at hres
  obtain⟨b',cs,e,k1,k3,k4⟩:=hres
  rw[hb] at k1;cases k1
  obtain⟨hf,hst,hle,hch⟩:=a8G hs k4 hrep
  have hg:=a5t (vs:=vs) hb k3 hle (a1e k4)
  have hI:∀ i,bW (E1.inn r i)=none:=fun i=>m1.inner r i (by rw[hr2];exact uq _)
  have hsz:=hg.size
  have hF:∀ q,fz w E1 q->fz (w.setCells b off vs) (E1.put r (some b) (E1.sl r)) q:=CP (ρ:=ρ) hsz (.inr (.inl hb.symm))
  have hx9:oD (E1.put r (some b) (E1.sl r)) (w.setCells b off vs) r (.box qs) :=
   ⟨b,_,e,by show bV E1.blk r _ r=_;rw[aG],kN b vs off w cs e k3 hle,aX (fun c p=>jI.mono hF hg.stay) _ _ hch⟩
  obtain⟨n1,n2⟩:=m1.turn r hg (some b) (E1.sl r) (.box qs) hx9 (.inr (.inl hb.symm)) rfl (fun k e=>by cases e) (fun h=>by rw[hr2] at h;exact h.elim) (fun _=>⟨trivial,hb.symm⟩) (fun v h=>by rw[hr2] at h;exact h.elim) (fun v _ hv=>hv.elim) (fun v h=>h.elim)
  refine⟨.skip,undef,w.setCells b off vs,_,?_,.inr ⟨rfl,rfl⟩,by rw[iF];exact n1,by rw[iF];exact m2.trans n2,trivial,trivial⟩
  simp only[execOp,ho,jc,hp,hv,Instr.storeAt,Instr.sureAddr,Sem.run_pure,Result.andThen_ok]
  rw[AV hf hst (fun j hj=>⟨by rw[zq _ _ _ _ _ _ k3];simp;omega,by simp[World.frozen?,k3]⟩) hrep]
  rfl
 case fieldAddr s x i =>
  simp only[sJ] at h
  split at h<;>try(cases h;done)
  rename_i r off hx
  split at h<;>try(cases h;done)
  rename_i ps hr
  simp only[je,dh] at h
  obtain⟨q,h1,_,rfl,rfl⟩:=h
  have hkx:=hk x
  rw[hx] at hkx
  have hwx:=hw x
  rw[hx] at hwx
  unfold a2l at h1
  split at h1<;>first|(cases h1;done)|skip
  rename_i fs hu
  split at h1<;>first|(cases h1;done)|skip
  rename_i f hf
  split at h1<;>first|(cases h1;done)|skip
  rename_i j hj
  split at h1<;>first|(cases h1;done)|skip
  rename_i hz
  simp only[ah] at h1
  subst h1
  obtain⟨b,hb,hp⟩:=hkx
  refine fO.of (s:=Instr.fieldAt s (ev x) i) (by simp only[execOp,ho]) ⟨.pointer (some ⟨b,off+f.offset,none⟩),w,E,?_,hM,Ext.refl _ _ _,hwx,⟨b,hb,rfl⟩⟩
  simp[hp,Instr.fieldAt,jc,qj hu w,hf,Instr.sureAddr,fieldPlace,run_sizeOf hj,hz,Bo]
 case indexAddr s x i =>
  simp only[sJ] at h
  split at h<;>try(cases h;done)
  rename_i r off kd n hx hi
  split at h<;>try(cases h;done)
  rename_i ps hr
  simp only[je,dh] at h
  obtain⟨q,h1,_,rfl,rfl⟩:=h
  have hkx:=hk x
  rw[hx] at hkx
  have hki:=hk i
  rw[hi] at hki
  have hwx:=hw x
  rw[hx] at hwx
  unfold a6a at h1
  split at h1<;>first|(cases h1;done)|skip
  rename_i m e hu
  split at h1<;>first|(cases h1;done)|skip
  rename_i j k9 hj
  split at h1<;>first|(cases h1;done)|skip
  rename_i hlt
  simp only[ah] at h1
  subst h1
  obtain⟨b,hb,hp⟩:=hkx
  refine fO.of (s:=Instr.indexAt s (ev x) (ev i)) (by simp only[execOp,ho]) ⟨.pointer (some ⟨b,off+k9*j.size,none⟩),w,E,?_,hM,Ext.refl _ _ _,hwx,⟨b,hb,rfl⟩⟩
  rw[hp,mJ hki]
  have h0:(0:Int)<=Int.ofNat k9:=ql _
  have h2:Int.ofNat k9<(m:Int):=by simp;omega
  simp[Instr.indexAt,asIntOf,jc,qj hu w,Instr.sureAddr,run_sizeOf hj,Bo,hlt]
end
end
end Go.Proofs.YtgplhbhfdgempaaGreat
