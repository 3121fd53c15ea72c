/-
  Lemmas for the theorem vdecomposes28_holds, part 9 of 34.
-/
import Derived.Test.YtbkocjmmbkifjaaGreatQd08
namespace Go.Proofs.YtbkocjmmbkifjaaGreat
open Go Go.RowKit
theorem ni:type_of% @List.mem_map:=@List.mem_map
theorem qj:type_of% @List.getElem?_map:=@List.getElem?_map
theorem jw:type_of% @List.mem_cons:=@List.mem_cons
theorem Bc:type_of% @List.getElem?_range:=@List.getElem?_range
section
set_option linter.unusedSimpArgs false
set_option linter.unusedVariables false
section
variable {P:Program} {E:Env} {ρ:Nat->Res} {W w:World}
theorem qW:∀ (l:List (Nat × Res)) (ρ:Nat->Res) (r:Nat),l.all (fun q=>q.1 != r)=true->after ρ l r=ρ r
 | [],_,_,_=>rfl
 | (q,x)::l,ρ,r,h=>by
  simp only[List.all_cons,ay,bne_iff_ne,ne_eq] at h
  rw[after,qW l _ r h.2,aP _ _ (fun e=>h.1 e.symm)]
theorem jU {o:Oper} {ev:Operand->Value} {s x:Operand} {t:TypeId} (ho:o.op=.call { callee:=.builtin .append,args:=#[s,x],argTypes:=#[t,t] }):execOp ev o=(do pure (.value (<-Builtin.append_ #[t,t] o.type #[ev s,ev x]))):=by
 simp[execOp,ho,resolve,invoke,builtin]
theorem b1v {T:Told} {k:Operand->K} {ev:Operand->Value} {o:Oper} {vc:List Cd} {kk:K} {l:List (Nat × Res)} (h:BK P T ρ k o.dst o.op=some (vc,kk,l)) (hv:dH vc) (hM:Mem E ρ W w) (hw:∀ x,(k x).wf ρ) (hk:∀ x,(k x).holds E ρ w (ev x)):dZ P E ρ W w o ev kk l:=by
 cases ho:o.op<;>rw[ho] at h<;>try (simp[BK] at h;done)
 case buildSlice t len parts =>
  simp only[BK] at h
  split at h<;>try(cases h;done)
  rename_i hidx
  simp only[ay,jl,gy] at hidx
  have hlen:parts.size=len:=by simpa using hidx.1
  have b6k:execOp ev o=(do pure (.value (<-Instr.buildSlice t len ((((parts.toList.map fun q=>ev q.2).zipIdx 0).map fun p=>(p.2,p.1)).toArray)))):=by
   have:parts.map (fun q=>(q.1,ev q.2))=((((parts.toList.map fun q=>ev q.2).zipIdx 0).map fun p=>(p.2,p.1)).toArray):=by
    apply Df
    rw[Array.toList_map,SG ev parts.toList 0 hidx.2]
   simp only[execOp,ho,<-this]
  split at h
  ·split at h<;>try(cases h;done)
   rename_i r hd _ ty het
   split at h<;>try(cases h;done)
   rename_i e hsb
   split at h<;>try(cases h;done)
   rename_i hc
   simp only[ay] at hc
   simp only[ah,au] at h
   obtain⟨_,rfl,rfl⟩:=h
   have hρ:=Res.lX hc.1
   have hp0:parts.toList=[]:=jm (by simpa using hlen)
   have hb:Below w.heap.size w (w.alloc (.cells #[] e)):=(dh _ _).alloc (aj _) _
   have hcell:(w.alloc (.cells #[] e)).heap[w.heap.size]?=some (.cells #[] e (0,0)):=Cc w _
   have hrun:=run_buildSlice (P:=P) (w:=w) (t:=t) (ty:=ty) (xs:=[]) (vs:=[]) (ps:=[]) (n:=0) hsb rfl .nil
   obtain⟨m1,m2⟩:=hM.turn (w':=w.alloc (.cells #[] e)) r (kP.below hb _) (some w.heap.size) (.slice (some ⟨w.heap.size,0,none⟩) 0 0) (.row e ty [] 1)
    ⟨by show bG E.blk r _ r=bI (bG E.sl r _ r);rw[aF,aF];rfl,hc.2,[],by
     show World.ownsRow _ _ _ _ (bG E.sl r _ r) _ _
     rw[aF]
     exact⟨by simp,.inr ⟨w.heap.size,0,#[],rfl,qm _,hcell,aj _,by omega,by simp,by simp⟩⟩,rfl,by
     show CAv _ _ (bG E.sl r _ r)/\nnS _ (bG E.sl r _ r)
     rw[aF]
     refine⟨?_,fun _ h=>by cases h⟩
     intro g hg i u hu
     cases hg
     rw[xu _ _ _ _ _ _ hcell] at hu
     simp at hu⟩ (.inr (.inr rfl)) rfl (fun k e=>by cases e) (fun h=>by rw[hρ] at h;exact h.elim) (fun h=>by rw[hρ] at h;exact h.elim) (fun v h=>by rw[hρ] at h;exact h.elim) (fun v h=>by rw[hρ] at h;exact h.elim) (fun v h=>h.elim)
   refine dZ.of b6k ⟨.slice (some ⟨w.heap.size,0,none⟩) 0 0,w.alloc (.cells #[] e),_,?_,m1,m2,?_,?_⟩
   ·rw[hp0];exact hrun
   ·show Res.eF 1 (bG ρ r _ r);rw[aF];exact aj _
   ·intro _
    show _=bG E.sl r _ r
    rw[aF]
  ·split at h<;>try(cases h;done)
   rename_i n dd p ps l' hts
   split at h<;>try(cases h;done)
   rename_i xs e hst hsb
   simp only[ah,au] at h
   obtain⟨_,rfl,rfl⟩:=h
   have b3B:kT (fun k v=>K.holds E ρ w k v) (parts.toList.map fun q=>k q.2) (parts.toList.map fun q=>ev q.2):=a4w (R:=fun k v=>K.holds E ρ w k v) hk parts.toList
   obtain⟨E1,m1,m2,m3⟩:=a0V hts hM (fun k9 hk9=>by
    obtain⟨q,_,rfl⟩:=ni.1 hk9
    exact hw q.2) b3B
   have hst2:lJ p.t (p::ps)=some (p.x::xs):=by
    simp only[lJ,hst]
    have:fZ p.t p.t p.x=some p.x:=by simp[fZ]
    rw[this]
   have hv2:=QH hst2 m3
   have hvl:(parts.toList.map fun q=>ev q.2).length=n+1:=by simpa using hlen
   have hrun:=run_buildSlice (P:=P) (w:=w) (t:=t) (ty:=p.t) (xs:=p.x::xs) (ps:=p::ps) hsb hvl hv2
   obtain⟨q1,q2,q3⟩:=YF hst2 m3
   generalize hcs:((parts.toList.map fun q=>ev q.2).map fun v=>v.cells.toList).flatten=cs at *
   have hb:Below w.heap.size w (w.alloc (.cells cs.toArray e)):=(dh _ _).alloc (aj _) _
   have hcell:(w.alloc (.cells cs.toArray e)).heap[w.heap.size]?=some (.cells cs.toArray e (0,0)):=Cc w _
   obtain⟨n1,n2⟩:=m1.grows hb
   have hxl:(p.x::xs).length=n+1:=by
    have hal:∀ {ps:List Part} {xs:List p.t.den},lJ p.t ps=some xs->xs.length=ps.length:=by
     intro ps
     induction ps with
     | nil=>intro xs h;simp only[lJ,ah] at h;subst h;rfl
     | cons a b ih =>
      intro xs h
      simp only[lJ] at h
      split at h<;>try(cases h;done)
      rename_i x xs' h1 h2
      simp only[ah] at h
      subst h
      simp[ih h2]
    rw[hal hst2,<-q3];exact hvl
   refine dZ.of b6k ⟨_,_,E1,hrun,n1,m2.trans n2,trivial,[.slice (some ⟨w.heap.size,0,none⟩) (n+1) (n+1)],rfl,some ⟨w.heap.size,0,none⟩,n+1,by rw[hxl],Nat.le_of_eq hxl,?_,.inr ⟨w.heap.size,0,cs,rfl,rD (by simp) (m1.base _ (.inr m1.below.size)) (fun r' j9 e9=>?_),fun j u hu=>?_,aW (fun c y=>bT n2.fz n2.stay p.t c y) _ _ q2⟩⟩
   ·obtain⟨_,_,z3,z4,_⟩:=jF hsb
    have:n+1<=(n+1)*p.t.n:=Nat.le_mul_of_pos_right _ z4
    omega
   ·have:=m1.lt e9;omega
   ·rw[ny,xu _ _ _ _ _ _ hcell];simpa using hu
  ·cases h
 case call c =>
  obtain⟨cl,xs,ts⟩:=c
  cases cl<;>try (simp[BK] at h;done)
  rename_i bi
  cases bi<;>try (simp[BK] at h;done)
  simp only[BK] at h
  split at h<;>try(cases h;done)
  rename_i s x t t' hxs hts
  have exs:xs=#[s,x]:=by rw[<-Array.toArray_toList (xs:=xs),hxs]
  have ets:ts=#[t,t']:=by rw[<-Array.toArray_toList (xs:=ts),hts]
  subst exs ets
  split at h<;>try(cases h;done)
  rename_i htt
  subst htt
  split at h<;>try(cases h;done)
  ·rename_i _ r v hks
   split at h<;>try(cases h;done)
   rename_i e ty ys0 v' hr
   split at h<;>try(cases h;done)
   rename_i p l' hat
   split at h<;>try(cases h;done)
   rename_i vcx ys hcast
   split at h<;>try(cases h;done)
   rename_i hc
   simp only[ay,jl,gy] at hc
   obtain⟨⟨⟨⟨hvv,hsb⟩,hfew⟩,hzb⟩,hall⟩:=hc
   simp only[a5f,ah,au] at h
   obtain⟨rfl,rfl,rfl⟩:=h
   have hs:ev s=E.sl r:=by
    have:=hk s
    rw[hks] at this
    exact this (by rw[hr];exact hvv.symm)
   obtain⟨E1,m1,m2,m3⟩:=a6d hat hM (hw x) (hk x)
   have hr1:after ρ l' r=.row e ty ys0 v':=by rw[qW l' ρ r hall];exact hr
   have hsl1:E1.sl r=E.sl r:=(m2.own r v' (by rw[hr];exact aj _) (by rw[hr1];rfl)).2.1
   have hres:=m1.res r
   rw[hr1] at hres
   obtain⟨k1,k2,cs,k3,k4,k5⟩:=hres
   obtain⟨s',w',E',g1,g2,g3,g4⟩:=OT (P:=P) (t:=t) (s:=E1.sl r) (x:=ev x) (v0:=nxf v') m1 hsb hfew hzb k2 (k1.trans (lT _)) k3 k4 k5.1 (b0F k5.2) (a8t hcast hv.2 m3) hv.1 (.inr ⟨e,ty,ys0,v',hr1,b0k _,a9v _⟩) o.type
   refine dZ.of (jU ho) ⟨s',w',E',?_,by rw[fP];exact g2,by rw[fP];exact m2.trans g3,?_,?_⟩
   ·rw[hs,<-hsl1];exact g1
   ·rw[fP];show Res.eF _ (bG _ r _ r);rw[aF];exact aj _
   ·intro _;exact g4
  ·rename_i r hks hd
   split at h<;>try(cases h;done)
   rename_i ty ys l' hat
   split at h<;>try(cases h;done)
   rename_i e hsb
   split at h<;>try(cases h;done)
   rename_i hc
   simp only[ay,jl,gy] at hc
   obtain⟨⟨⟨⟨hrn,hst⟩,hfew⟩,hzb⟩,hall⟩:=hc
   simp only[a5f,ah,au] at h
   obtain⟨rfl,rfl,rfl⟩:=h
   have hs:ev s=.slice none 0 0:=by
    have:=hk s
    rw[hks] at this
    exact this
   obtain⟨E1,m1,m2,m3⟩:=a6d hat hM (hw x) (hk x)
   have hr1:after ρ l' r=.none:=by rw[qW l' ρ r hall];exact Res.lX hrn
   have hblk:E1.blk r=none:=by
    have:=m1.res r
    rw[hr1] at this
    exact this
   obtain⟨s',w',E',g1,g2,g3,g4⟩:=OT (P:=P) (t:=t) (s:=.slice none 0 0) (x:=ev x) (xs:=[]) (cs:=[]) (v0:=nxf 0) m1 hsb hfew hzb hst hblk (Az w _ _ _) rfl (fun g hg=>by cases hg) (fun h=>by cases h) m3 hv.1 (.inl hr1) o.type
   refine dZ.of (jU ho) ⟨s',w',E',?_,by rw[fP];exact g2,by rw[fP];exact m2.trans g3,?_,?_⟩
   ·rw[hs];exact g1
   ·rw[fP];show Res.eF _ (bG _ r _ r);rw[aF];exact aj _
   ·intro _;exact g4
end
end
set_option linter.unusedSimpArgs false
set_option linter.unusedVariables false
structure Ctr where
 args:List Ty
 res:List Ty
 pre:(nest args).den->Prop
 fn:(nest args).den->(nest res).den
 [dec:∀ x,Dc (pre x)]
def qO (F:Nat->Prop) (w:World):(ts:List Ty)->Value->(nest ts).den->Prop
 | [t],v,x=>iQ F w t v x.1
 | ts,v,x=>∃ vs,v=.tuple vs.toArray/\iY F w ts vs x
def newF (F:Nat->Prop) (w w':World) (q:Nat):Prop:=(F q\/w.heap.size<=q)/\q<w'.heap.size
def aH (P:Program) (f:FuncId) (c:Ctr):Prop:=∀ (F:Nat->Prop) (w:World) (vs:List Value) (x:(nest c.args).den),(∀ q,F q->q<w.heap.size)->iY F w c.args vs x->c.pre x ->
 Calls P f vs.toArray w fun e w'=>∃ v,e=.returned v/\qO (newF F w w') w' c.res v (c.fn x)/\Below w.heap.size w w'
def b1k:(ts:List Ty)->(nest ts).den->K
 | [t],x=>.val t x.1
 | ts,x=>.tup ts x
section
def UU:Ty->List Part
 | .pair a b=>⟨a,a.zero⟩::UU b
 | .arr n t=>List.replicate n ⟨t,t.zero⟩
 | _=>[]
def XQ:List Part->Part
 | []=>⟨.unit,()⟩
 | p::ps=>⟨.pair p.t (XQ ps).t,(p.x,(XQ ps).x)⟩
def c1N:List Part->Option Part
 | []=>none
 | p::ps=>(lJ p.t (p::ps)).map fun xs=>⟨.arr (ps.length+1) p.t,xs⟩
def a2v (k:Operand->K):List Part->List (Nat × Operand)->Option (List Part)
 | ps,[]=>some ps
 | ps,(i,x)::l=>match ps[i]?,k x with
  | some q,.val t y=>if t.n=q.t.n&&t.agg==q.t.agg then a2v k (ps.set i ⟨t,y⟩) l else none
  | some ⟨.list t,_⟩,.nil=>a2v k (ps.set i ⟨.list t,[]⟩) l
  | _,_=>none
def XV (P:Program):List Field->List Part->Nat->Bool
 | [],[],_=>true
 | f::fs,p::ps,o=>f.offset==o&&(P.info? f.type).map (·.size)==some p.t.n&&XV P fs ps (o+p.t.n)
 | _,_,_=>false
def CG (ps:List Part):Bool:=ps.all fun p=>p.t.zc.isSome
def a5Q:Ty->Bool
 | .pair _ b=>a5Q b
 | .unit=>true
 | _=>false
def a9b (P:Program) (t:TypeId) (ty:Ty):Bool:=ty.agg&&match P.underlying t with
 | some (.struct fs)=>fs.toList.all fun f=>(P.info? f.type).isSome
 | some (.array _ e)=>(P.info? e).isSome
 | _=>false
def a8f (n:Nat):Ty->Option Ty
 | .arr m u=>if n=m then some u else none
 | _=>none
def b5V (P:Program) (e:TypeId) (u:Ty):Bool:=(P.info? e).map (·.size)==some u.n&&u.zc.isSome
def rowB (P:Program) (fs:Array Field) (ty:Ty):Bool:=XV P fs.toList (UU ty) 0&&CG (UU ty)&&a5Q ty
def a5I (p:Part):List Cd × K:=([],.val p.t p.x)
def a3C (P:Program) (k:Operand->K) (ty:Ty) (l:List (Nat × Operand)):TypeDesc->PK
 | .struct fs=>if rowB P fs ty then (a2v k (UU ty) l).map fun ps=>a5I (XQ ps) else none
 | .array n e=>match a8f n ty with
  | some u=>if b5V P e u then ((a2v k (List.replicate n ⟨u,u.zero⟩) l).bind c1N).map a5I else none
  | none=>none
 | _=>none
def OL (P:Program) (T:Told) (k:Operand->K):Op->PK
 | .build t parts=>match (T.ty t).map (bTy parts.isEmpty),P.underlying t with
  | some ty,some d=>if YX P t ty then (if parts.isEmpty then (if a9b P t ty then some ([],.val ty ty.zero) else none) else a3C P k ty parts.toList d) else none
  | _,_=>none
 | _=>none
section
variable {P:Program} {E:Env} {ρ:Nat->Res} {w:World}
def vW (F:Nat->Prop) (w:World) (css:List (List Value)) (ps:List Part):Prop:=kT (fun c (p:Part)=>rep F w p.t c p.x) css ps
theorem RN:∀ (css:List (List Value)) (i:Nat) (c d:List Value),css[i]?=some c->(css.set i d).flatten=css.flatten.take ((css.take i).map List.length).sum++d++css.flatten.drop (((css.take i).map List.length).sum+c.length)
 | [],i,c,d,h=>by simp at h
 | a::css,0,c,d,h=>by
  simp only[List.getElem?_cons_zero,ah] at h
  subst h
  simp
 | a::css,i+1,c,d,h=>by
  have ih:=RN css i c d (by simpa using h)
  rw[List.set_cons_succ,List.flatten_cons,ih,List.flatten_cons]
  simp only[List.take_succ_cons,yh,List.sum_cons]
  generalize ((css.take i).map List.length).sum=s
  have e1:(a++css.flatten).take (a.length+s)=a++css.flatten.take s:=by rw[List.take_append,jc (by omega),Nat.add_sub_cancel_left]
  have e2:(a++css.flatten).drop (a.length+s+c.length)=css.flatten.drop (s+c.length):=by rw[Nat.add_assoc,List.drop_append,List.drop_of_length_le (by omega),Nat.add_sub_cancel_left,List.nil_append]
  rw[e1,e2]
  simp
theorem a4v {α β:Type} {R:α->β->Prop}:∀ {l:List α} {m:List β} {i:Nat} {b:β},kT R l m->m[i]?=some b->∃ a,l[i]?=some a/\R a b
 | _,_,i,b,.nil,h=>by simp at h
 | _,_,0,b,.cons (a:=a) h1 _,h=>by
  simp only[List.getElem?_cons_zero,ah] at h
  subst h
  exact⟨a,rfl,h1⟩
 | _,_,i+1,b,.cons _ h2,h=>by
  obtain⟨a,k1,k2⟩:=a4v h2 (by simpa using h)
  exact⟨a,by simpa using k1,k2⟩
theorem a0S {α β:Type} {R:α->β->Prop}:∀ {l:List α} {m:List β} {i:Nat} {a:α} {b:β},kT R l m->R a b->kT R (l.set i a) (m.set i b)
 | _,_,_,_,_,.nil,_=>.nil
 | _,_,0,_,_,.cons _ h2,h=>.cons h h2
 | _,_,i+1,_,_,.cons h1 h2,h=>.cons h1 (a0S h2 h)
def lD (ps:List Part) (i:Nat):Nat:=((ps.take i).map (·.t.n)).sum
theorem a5D {F:Nat->Prop}:∀ {css:List (List Value)} {ps:List Part} (i:Nat),vW F w css ps->((css.take i).map List.length).sum=lD ps i
 | _,_,i,.nil=>by simp[lD]
 | _,_,0,.cons _ _=>by simp[lD]
 | _,_,i+1,.cons h1 h2=>by
  have:=a5D i h2
  simp only[lD,List.take_succ_cons,yh,List.sum_cons] at *
  rw[this,dK _ _ _ h1]
theorem a1v {F:Nat->Prop}:∀ {css:List (List Value)} {ps:List Part},vW F w css ps->css.flatten.length=(ps.map (·.t.n)).sum
 | _,_,.nil=>rfl
 | _,_,.cons h1 h2=>by
  simp only[List.flatten_cons,dn,yh,List.sum_cons]
  rw[a1v h2,dK _ _ _ h1]
theorem b0J:∀ {ps:List Part} {i:Nat} {q:Part},ps[i]?=some q->lD ps i+q.t.n<=(ps.map (·.t.n)).sum
 | p::ps,0,q,h=>by
  simp only[List.getElem?_cons_zero,ah] at h
  subst h
  simp[lD]
 | p::ps,i+1,q,h=>by
  have:=b0J (ps:=ps) (i:=i) (q:=q) (by simpa using h)
  simp only[lD,List.take_succ_cons,yh,List.sum_cons] at *
  omega
 | [],i,q,h=>by simp at h
theorem a5C {ps:List Part} {i:Nat} {q p:Part} (h:ps[i]?=some q) (hn:p.t.n=q.t.n) (j:Nat):lD (ps.set i p) j=lD ps j:=by
 unfold lD
 rw[List.map_take,List.map_take,List.map_set]
 congr 2
 apply List.ext_getElem?
 intro x
 rw[List.getElem?_set]
 split
 ·rename_i e
  subst e
  rw[qj,h]
  have:i<ps.length:=(jq.1 h).1
  simp[this,hn]
 ·rfl
theorem FM {k:Operand->K} {ev:Operand->Value} (hk:∀ x,(k x).holds E ρ w (ev x)) (place:Nat->Option (Nat × Nat)):∀ {l:List (Nat × Operand)} {ps qs:List Part} {css:List (List Value)} {a:Array Value},a2v k ps l=some qs->vW (fz w E) w css ps->a.toList=css.flatten->(∀ i q,ps[i]?=some q->place i=some (lD ps i,q.t.n)) ->
  ∃ a' QY,Instr.fill place a (l.map fun q=>(q.1,ev q.2))=some a'/\a'.toList=QY.flatten/\vW (fz w E) w QY qs
 | [],ps,qs,css,a,h,hp,ha,hpl=>by
  simp only[a2v,ah] at h
  subst h
  exact⟨a,css,rfl,ha,hp⟩
 | (i,x)::l,ps,qs,css,a,h,hp,ha,hpl=>by
  have step:∀ (q p:Part) (v:Value),ps[i]?=some q->p.t.n=q.t.n->ev x=v->iQ (fz w E) w p.t v p.x->a2v k (ps.set i p) l=some qs ->
    ∃ a' QY,Instr.fill place a (((i,x)::l).map fun q=>(q.1,ev q.2))=some a'/\a'.toList=QY.flatten/\vW (fz w E) w QY qs:=by
   intro q p v hq hn hv hr hset
   obtain⟨cs,hvc,hrep⟩:=hr
   obtain⟨c,hc,hcr⟩:=a4v hp hq
   have hlc:=dK _ _ _ hcr
   have hls:=dK _ _ _ hrep
   have hcells:v.cells=cs.toArray:=by rw[hvc];exact nY p.t cs p.x hrep
   have hoff:=a5D i hp
   have hle:=b0J hq
   have hal:a.size=(ps.map (·.t.n)).sum:=by rw[<-Array.length_toList,ha,a1v hp]
   have hfold:=a1x cs (lD ps i) 0 a (by rw[hal,hls,hn];omega)
   rw[Nat.add_zero] at hfold
   have XF:=RN css i c cs hc
   rw[hoff] at XF
   have key:(v.cells.zipIdx.foldl (fun cs (p:Value × Nat)=>cs.setIfInBounds (lD ps i+p.2) p.1) a)=((cs.zipIdx 0).foldl (fun cs (p:Value × Nat)=>cs.setIfInBounds (lD ps i+p.2) p.1) a):=by
    rw[hcells,<-Array.foldl_toList];congr 1
    simp
   obtain⟨a',QY,k1,k2,k3⟩:=FM hk place (a:=((cs.zipIdx 0).foldl (fun cs (p:Value × Nat)=>cs.setIfInBounds (lD ps i+p.2) p.1) a)) hset (a0S hp hrep) (by rw[hfold,XF,ha];rw[show cs.length=c.length by rw[hls,hn,hlc]]) (fun j q' hq'=>by
    by_cases e:i=j
    ·subst e
     have hil:i<ps.length:=(jq.1 hq).1
     rw[List.getElem?_set_self hil] at hq'
     cases hq'
     rw[a5C hq hn,hn];exact hpl i q hq
    ·rw[List.getElem?_set_ne e] at hq'
     rw[a5C hq hn];exact hpl j q' hq')
   refine⟨a',QY,?_,k2,k3⟩
   rw[yh,Instr.fill]
   simp only[hpl i q hq,hv]
   have hz:v.cells.size=q.t.n:=by rw[hcells];simp[hls,hn]
   have hc9:¬ (lD ps i+v.cells.size > a.size):=by rw[hz,hal];omega
   simp only[hz,ne_eq,not_true_eq_false,false_or]
   rw[hz] at hc9
   rw[eu (by simp only[je hc9];decide)]
   rw[show (v.cells.zipIdx.foldl (fun cs x=>match x with|(c,j)=>cs.setIfInBounds (lD ps i+j) c) a)=_ from key]
   exact k1
  simp only[a2v] at h
  split at h<;>try(cases h;done)
  ·rename_i q t y hq hkx
   split at h<;>try(cases h;done)
   rename_i hb
   simp only[ay,gy,jl] at hb
   have hh:=hk x
   rw[hkx] at hh
   exact step q ⟨t,y⟩ (ev x) hq hb.1 rfl hh h
  ·rename_i t y hq hkx
   have hh:=hk x
   rw[hkx] at hh
   exact step _ ⟨.list t,[]⟩ (ev x) hq rfl rfl ⟨[.slice none 0 0],hh,none,0,rfl,by simp,by omega,.inl rfl⟩ h
theorem XR {F:Nat->Prop}:∀ {css:List (List Value)} {ps:List Part},vW F w css ps->rep F w (XQ ps).t css.flatten (XQ ps).x
 | _,_,.nil=>rfl
 | _,_,.cons h1 h2=>⟨_,_,by rw[List.flatten_cons],h1,XR h2⟩
theorem a4x {F:Nat->Prop} {t:Ty}:∀ {css:List (List Value)} {ps:List Part} {xs:List t.den},vW F w css ps->lJ t ps=some xs->chunks (rep F w t) css.flatten xs/\xs.length=ps.length
 | _,_,xs,.nil,h=>by
  simp only[lJ,ah] at h
  subst h
  exact⟨rfl,rfl⟩
 | _,_,xs,.cons (a:=c) (b:=p) h1 h2,h=>by
  simp only[lJ] at h
  split at h<;>try(cases h;done)
  rename_i x xs' k1 k2
  simp only[ah] at h
  subst h
  obtain⟨j1,j2⟩:=a4x h2 k2
  obtain⟨pt,px⟩:=p
  obtain⟨e,k1⟩:=dQ k1
  simp only at e
  subst e
  have k1:px=x:=k1
  subst k1
  exact⟨⟨c,_,by rw[List.flatten_cons],h1,j1⟩,by simp[j2]⟩
theorem a4s {F:Nat->Prop}:∀ (ps:List Part),CG ps=true->(∀ p ∈ ps,p.x=p.t.zero)->∃ css,vW F w css ps/\css=ps.map (fun p=>p.t.zc.getD [])
 | [],_,_=>⟨[],.nil,rfl⟩
 | p::ps,h,hz=>by
  simp only[CG,List.all_cons,ay] at h
  obtain⟨css,h1,h2⟩:=a4s ps (by unfold CG;exact h.2) (fun p hp=>hz p (iy _ hp))
  obtain⟨c,hc⟩:=Bh.1 h.1
  refine⟨c::css,.cons ?_ h1,by rw[h2,yh,hc];rfl⟩
  rw[hz p (jd ..)]
  exact CB p.t c hc
theorem b2h:∀ (t:Ty),∀ p ∈ UU t,p.x=p.t.zero:=by
 intro t
 induction t with
 | pair a b _ ih =>
  intro p hp
  rcases jw.1 hp with rfl|hp
  ·rfl
  ·exact ih p hp
 | arr n t _=>intro p hp;rw[(Dy.1 hp).2]
 | _=>intro p hp;cases hp
theorem b2g:∀ (t:Ty) (c:List Value),t.zc=some c->a5Q t=true->((UU t).map fun p=>p.t.zc.getD []).flatten=c:=by
 intro t
 induction t with
 | pair a b _ ih =>
  intro c h hr
  simp only[Ty.zc] at h
  split at h<;>try(cases h;done)
  rename_i c1 c2 h1 h2
  simp only[ah] at h
  subst h
  simp only[UU,yh,List.flatten_cons,h1,Option.getD_some]
  rw[ih c2 h2 hr]
 | unit=>intro c h hr;simp only[Ty.zc,ah] at h;rw[<-h];rfl
 | _=>intro c h hr;simp[a5Q] at hr
theorem TR:∀ {fs:List Field} {ps:List Part} {o:Nat},XV P fs ps o=true->fs.length=ps.length/\(∃ places,fs.mapM (fun f=>(P.info? f.type).map fun i=>(f.offset,i.size))=some places/\∀ i q,ps[i]?=some q->places[i]?=some (o+lD ps i,q.t.n))
 | [],[],o,_=>⟨rfl,[],rfl,fun i q h=>by simp at h⟩
 | f::fs,p::ps,o,h=>by
  simp only[XV,ay,jl] at h
  obtain⟨⟨h1,h2⟩,h3⟩:=h
  obtain⟨k1,places,k2,k3⟩:=TR h3
  cases hi:P.info? f.type with
  | none=>rw[hi] at h2;simp at h2
  | some j =>
   rw[hi] at h2
   have h2:j.size=p.t.n:=by simpa using h2
   refine⟨by simp[k1],(o,p.t.n)::places,?_,fun i q hq=>?_⟩
   ·simp only[List.mapM_cons,hi,k2,h1,h2,Option.map_some,Option.bind_eq_bind,Option.bind_some,Option.pure_def]
   ·cases i with
    | zero =>
     simp only[List.getElem?_cons_zero,ah] at hq
     subst hq
     simp[lD]
    | succ i =>
     have:=k3 i q (by simpa using hq)
     simp only[List.getElem?_cons_succ,this]
     simp only[lD,List.take_succ_cons,yh,List.sum_cons]
     rw[Nat.add_assoc]
 | [],_::_,_,h=>by simp[XV] at h
 | _::_,[],_,h=>by simp[XV] at h
theorem a7k {t:Ty} {n:Nat} {x:t.den}:∀ (i:Nat),i<=n->lD (List.replicate n ⟨t,x⟩) i=i*t.n:=by
 intro i hi
 unfold lD
 rw[List.take_replicate,List.map_replicate,List.sum_replicate_nat]
 rw[yj hi]
theorem a2V {T:Told} {k:Operand->K} {ev:Operand->Value} {o:Oper} {vc:List Cd} {kk:K} (h:OL P T k o.op=some (vc,kk)) (hk:∀ x,(k x).holds E ρ w (ev x)):zD P E ρ w o ev kk/\kk.wf ρ:=by
 cases ho:o.op<;>rw[ho] at h<;>try (simp[OL] at h;done)
 rename_i t parts
 have hmap:(parts.map fun q=>(q.1,ev q.2)).toList=parts.toList.map fun q=>(q.1,ev q.2):=by simp
 have fin:∀ (cells:Array Value),P.built t (parts.toList.map fun q=>(q.1,ev q.2))=some cells->∃ v,(execOp ev o).run P w=.ok (.value v) w/\v=.agg cells:=fun cells hb=>by
  have:=run_build w t (parts.map fun q=>(q.1,ev q.2)) cells (by rw[hmap];exact hb)
  exact⟨.agg cells,by simp only[execOp,ho];rw[dw];rw[show (Instr.build t (parts.map fun x=>match x with|(i,x)=>(i,ev x)))=Instr.build t (parts.map fun q=>(q.1,ev q.2)) from rfl,this];rfl,rfl⟩
 simp only[OL] at h
 split at h<;>try(cases h;done)
 rename_i ty d hty hu
 split at h<;>try(cases h;done)
 rename_i hz
 obtain⟨it,z,c,h1,h2,h3,h4,h5⟩:=yR hz
 split at h
 ·rename_i hp
  have hp:parts.toList=[]:=by simpa using hp
  split at h<;>try(cases h;done)
  rename_i hb
  simp only[a9b,hu,ay] at hb
  simp only[ah,au] at h
  obtain⟨_,rfl⟩:=h
  have b7q:P.built t []=some z.cells:=by
   unfold Program.built
   rw[h1,hu]
   cases d<;>first|(simp at hb;done)|skip
   ·rename_i n e
    simp only[h2]
    cases he:P.info? e with
    | none=>simp[he] at hb
    | some ie=>rfl
   ·rename_i fs
    simp only[h2]
    have hall:∀ f ∈ fs.toList,(P.info? f.type).isSome:=fun f hf=>qg.1 hb.2 f hf
    have:∃ places,fs.toList.mapM (fun f=>(P.info? f.type).map fun i=>(f.offset,i.size))=some places:=by
     revert hall
     generalize fs.toList=fl
     induction fl with
     | nil=>intro _;exact⟨[],rfl⟩
     | cons f fl ih =>
      intro hall
      obtain⟨pl,hpl⟩:=ih (fun f hf=>hall f (iy _ hf))
      obtain⟨j,hj⟩:=Bh.1 (hall f (jd ..))
      exact⟨(f.offset,j.size)::pl,by simp only[List.mapM_cons,hj,hpl,Option.map_some,Option.bind_eq_bind,Option.bind_some,Option.pure_def]⟩
    obtain⟨places,hpl⟩:=this
    rw[hpl]
    rfl
  obtain⟨v,hr,rfl⟩:=fin z.cells (by rw[hp];exact b7q)
  refine⟨⟨_,hr,c,?_,CB ty c h3⟩,trivial⟩
  rw[<-h4,Ty.toV,hb.1,iw rfl]
 ·cases d<;>try(cases h;done)
  ·rename_i n e
   simp only[a3C] at h
   split at h<;>try(cases h;done)
   rename_i u hau
   split at h<;>try(cases h;done)
   rename_i hb
   rw[ig] at h
   obtain⟨p,hp1,hp2⟩:=h
   rw[Option.bind_eq_some_iff] at hp1
   obtain⟨ps,hset,harr⟩:=hp1
   simp only[a5I,au] at hp2
   obtain⟨_,rfl⟩:=hp2
   have c6H:ty=.arr n u:=by
    cases ty<;>try (simp[a8f] at hau;done)
    simp only[a8f] at hau
    split at hau
    ·rename_i e9
     simp only[ah] at hau
     rw[e9,hau]
    ·cases hau
   subst c6H
   simp only[b5V,ay,jl] at hb
   obtain⟨hsz,hzc⟩:=hb
   obtain⟨css,z1,z2⟩:=a4s (F:=fz w E) (w:=w) (UU (.arr n u)) (by simp[CG,UU,hzc]) (b2h (.arr n u))
   have XF:z.cells.toList=css.flatten:=by
    rw[h4,z2]
    simp only[Ty.zc,ig] at h3
    obtain⟨d,h6,rfl⟩:=h3
    simp[UU,h6]
   cases hie:P.info? e with
   | none=>rw[hie] at hsz;simp at hsz
   | some ie =>
   rw[hie] at hsz
   have hsz:ie.size=u.n:=by simpa using hsz
   obtain⟨a',QY,f1,f2,f3⟩:=FM hk (fun i=>some (i*ie.size,ie.size)) hset z1 XF (fun i q' hq'=>by
    have hil:i<(List.replicate n (⟨u,u.zero⟩:Part)).length:=(jq.1 hq').1
    have c7b:i<n:=by simpa using hil
    have hq2:q'=⟨u,u.zero⟩:=by
     have:=Bz hq'
     exact(Dy.1 this).2
    rw[hq2,hsz]
    show some (i*u.n,u.n)=some (lD (List.replicate n ⟨u,u.zero⟩) i,u.n)
    rw[a7k i (by omega)])
   obtain⟨v,hr,rfl⟩:=fin a' (by
    unfold Program.built
    rw[h1,hu]
    simp only[h2,hie]
    exact f1)
   cases ps with
   | nil=>simp[c1N] at harr
   | cons p0 ps0 =>
    have harr:(lJ p0.t (p0::ps0)).map (fun xs=>(⟨.arr (ps0.length+1) p0.t,xs⟩:Part))=some p:=harr
    obtain⟨xs,hx,rfl⟩:=ig.1 harr
    obtain⟨j1,j2⟩:=a4x f3 hx
    refine⟨⟨_,hr,QY.flatten,?_,?_,j1⟩,trivial⟩
    ·rw[Ty.toV];show _=Value.agg _;rw[<-f2]
    ·rw[show List.length (α:=p0.t.den) xs=_ from j2];rfl
  ·rename_i fs
   simp only[a3C] at h
   split at h<;>try(cases h;done)
   rename_i hb
   simp only[rowB,ay] at hb
   rw[ig] at h
   obtain⟨ps,hset,hp2⟩:=h
   simp only[a5I,au] at hp2
   obtain⟨_,rfl⟩:=hp2
   obtain⟨css,z1,z2⟩:=a4s (F:=fz w E) (w:=w) (UU ty) hb.1.2 (b2h ty)
   obtain⟨_,places,o1,o2⟩:=TR hb.1.1
   have XF:z.cells.toList=css.flatten:=by rw[h4,z2,b2g ty c h3 hb.2]
   obtain⟨a',QY,f1,f2,f3⟩:=FM hk (fun i=>places.toArray[i]?) hset z1 XF (fun i q' hq'=>by
    have:=o2 i q' hq'
    rw[ny] at this
    simpa using this)
   obtain⟨v,hr,rfl⟩:=fin a' (by
    unfold Program.built
    rw[h1,hu]
    simp only[h2,o1]
    exact f1)
   have hrep:=XR f3
   refine⟨⟨_,hr,QY.flatten,?_,hrep⟩,trivial⟩
   have:(XQ ps).t.agg=true:=by cases ps<;>rfl
   rw[Ty.toV,this,iw rfl,<-f2]
end
end
section
def eqI (a b:Int):Bool:=a==b
def c6p (a b:Bool):Bool:=a==b
def a1o (P:Program) (t:TypeId):(ty:Ty)->ty.den->ty.den->Option Bool
 | .int _,x,y=>match P.underlying t with
  | some (.int _)=>some (eqI x y)
  | _=>none
 | .bool,x,y=>match P.underlying t with
  | some .bool=>some (c6p x y)
  | _=>none
 | _,_,_=>none
def NI (P:Program):List Field->Nat->(t:Ty)->t.den->t.den->Option Bool
 | [],_,.unit,_,_=>some true
 | f::fs,o,.pair a b,x,y=>if f.offset==o&&f.name != "_" && fitsT P f.type a then (match a1o P f.type a x.1 y.1,NI P fs (o+a.n) b x.2 y.2 with
  | some r,some s=>some (r&&s)
  | _,_=>none) else none
 | _,_,_,_,_=>none
def eqK (P:Program) (op:BinOp) (t:TypeId) (ty:Ty) (x y:ty.den):PK :=
 if ty.agg&&!P.eqGuardType P.depth t&&!P.stoodInHeld t then (match P.underlying t with
  | some (.struct fs)=>match NI P fs.toList 0 ty x y,op with
   | some r,.eql=>some ([],.val .bool r)
   | some r,.neq=>some ([],.val .bool (!r))
   | _,_=>none
  | _=>none) else none
def b3q (P:Program) (k:Operand->K):Op->PK
 | .binOp op t x y _=>match k x,k y with
  | .val ty a,.val ty' b=>match fZ ty' ty b with
   | some b=>eqK P op t ty a b
   | none=>none
  | _,_=>none
 | _=>none
section
variable {P:Program} {E:Env} {ρ:Nat->Res} {w:World}
theorem a9d {t:TypeId} {ty:Ty} {x y:ty.den} {r:Bool} {F:Nat->Prop} {d:Nat} (h:a1o P t ty x y=some r) {c c':List Value} (h1:rep F w ty c x) (h2:rep F w ty c' y):(Op.equalIn (d+1) t (ty.toV c) (ty.toV c')).run P w=.ok r w:=by
 cases ty<;>try (simp[a1o] at h;done)
 ·simp only[a1o] at h
  split at h<;>try(cases h;done)
  rename_i hu
  simp only[ah] at h
  subst h
  rw[show c=[.bool x] from h1,show c'=[.bool y] from h2]
  exact run_equalIn_bool w d t x y hu
 ·simp only[a1o] at h
  split at h<;>try(cases h;done)
  rename_i k _ _ hu
  simp only[ah] at h
  subst h
  rw[show c=[.int k x] from h1,show c'=[.int k y] from h2]
  exact run_equalIn_int w d t k _ x y hu
theorem a1p {F:Nat->Prop} {d:Nat}:∀ {fs:List Field} {o:Nat} {t:Ty} {x y:t.den} {r:Bool} {pre pre' c c':List Value},NI P fs o t x y=some r->pre.length=o->pre'.length=o->rep F w t c x->rep F w t c' y ->
  (Op.eqFields (d+1) (pre++c).toArray (pre'++c').toArray fs).run P w=.ok r w
 | [],o,t,x,y,r,pre,pre',c,c',h,hp,hp',h1,h2=>by
  cases t<;>try (simp[NI] at h;done)
  simp only[NI,ah] at h
  subst h
  rfl
 | f::fs,o,t,x,y,r,pre,pre',c,c',h,hp,hp',h1,h2=>by
  cases t<;>try (simp[NI] at h;done)
  rename_i a b
  simp only[NI] at h
  split at h<;>try(cases h;done)
  rename_i hb
  simp only[ay,jl,bne_iff_ne,ne_eq] at hb
  obtain⟨⟨ho,hn⟩,hf⟩:=hb
  split at h<;>try(cases h;done)
  rename_i r1 s1 he hr
  simp only[ah] at h
  subst h
  obtain⟨c1,c2,rfl,k1,k2⟩:=h1
  obtain⟨d1,d2,rfl,j1,j2⟩:=h2
  have lc:=dK a _ _ k1
  have ld:=dK a _ _ j1
  have e1:(((pre++(c1++c2)).drop o).take a.n)=c1:=by rw[<-hp,Ah,<-lc,Cb]
  have e2:(((pre'++(d1++d2)).drop o).take a.n)=d1:=by rw[<-hp',Ah,<-ld,Cb]
  have p1:=nX (w:=w) (P:=P) hf (cs:=pre++(c1++c2)) (o:=o) (F:=F) (x:=x.1) (by rw[e1];exact k1)
  have p2:=nX (w:=w) (P:=P) hf (cs:=pre'++(d1++d2)) (o:=o) (F:=F) (x:=y.1) (by rw[e2];exact j1)
  rw[e1] at p1
  rw[e2] at p2
  simp only[Op.eqFields]
  rw[iw hn]
  rw[dw,ho,p1]
  simp only[Result.andThen_ok,dw]
  rw[p2]
  simp only[Result.andThen_ok,a9d (d:=d) he k1 j1]
  cases r1 with
  | false=>simp
  | true =>
   have ih:=a1p (F:=F) (d:=d) (pre:=pre++c1) (pre':=pre'++d1) hr (by rw[dn,hp,lc]) (by rw[dn,hp',ld]) k2 j2
   simp only[Bool.not_true,xg,if_false,Bool.true_and]
   rw[<-Aw,<-Aw]
   exact ih
theorem b3r {k:Operand->K} {ev:Operand->Value} {o:Oper} {vc:List Cd} {kk:K} (h:b3q P k o.op=some (vc,kk)) (hk:∀ x,(k x).holds E ρ w (ev x)):zD P E ρ w o ev kk/\kk.wf ρ:=by
 cases ho:o.op<;>rw[ho] at h<;>try (simp[b3q] at h;done)
 rename_i op t x y yt
 simp only[b3q] at h
 split at h<;>try(cases h;done)
 rename_i ty a ty' b hx hy
 split at h<;>try(cases h;done)
 rename_i b' hc
 obtain⟨rfl,rfl⟩:=dQ hc
 have h1:=hk x
 have h2:=hk y
 rw[hx] at h1
 rw[hy] at h2
 obtain⟨c,hvx,k1⟩:=h1
 obtain⟨c',hvy,k2⟩:=h2
 unfold eqK at h
 split at h<;>try(cases h;done)
 rename_i hb
 simp only[ay,yc] at hb
 split at h<;>try(cases h;done)
 rename_i fs hu
 have hfs:P.fieldsOf t=fs:=by simp[Program.fieldsOf,hu]
 have hvx:ev x=.agg c.toArray:=by rw[hvx,Ty.toV,hb.1.1,iw rfl]
 have hvy:ev y=.agg c'.toArray:=by rw[hvy,Ty.toV,hb.1.1,iw rfl]
 have hrun:∀ r,NI P fs.toList 0 ty' a b=some r->(Op.equalIn 10000 t (.agg c.toArray) (.agg c'.toArray)).run P w=.ok r w:=fun r hr=>by
  rw[run_equalIn_struct w 9999 t _ _ (by rw[hfs];exact hu) hb.2,hfs]
  exact a1p (d:=9998) (pre:=[]) (pre':=[]) hr rfl rfl k1 k2
 split at h<;>try(cases h;done)
 ·rename_i r hr
  simp only[ah,au] at h
  obtain⟨_,rfl⟩:=h
  refine⟨fK (by simp only[execOp,ho];rfl) ⟨.bool r,?_,iU _⟩,trivial⟩
  rw[hvx,hvy,dw,run_eqGuard_agg w _ _ _ _ _ _ hb.1.2]
  simp only[Result.andThen_ok]
  rw[run_eql_struct,hrun r hr]
  rfl
 ·rename_i r hr
  simp only[ah,au] at h
  obtain⟨_,rfl⟩:=h
  refine⟨fK (by simp only[execOp,ho];rfl) ⟨.bool (!r),?_,iU _⟩,trivial⟩
  rw[hvx,hvy,dw,run_eqGuard_agg w _ _ _ _ _ _ hb.1.2]
  simp only[Result.andThen_ok]
  rw[run_neq_struct,hrun r hr]
  rfl
end
end
section
def dB {α:Type} (ids:Option (List Nat)) (xss:List α):Nat:=match ids with
 | some l=>l.length
 | none=>xss.length
def nameAt (ids:Option (List Nat)) (i:Nat):Nat:=match ids with
 | some l=>l.getD i 0
 | none=>i
def rowAt {α:Type} (xss:List (List α)) (i:Nat):List α:=xss.getD i []
theorem zM {α:Type} (ids:Option (List Nat)) (xss:List α):(bZ ids xss).length=dB ids xss:=by cases ids<;>simp[bZ,dB]
theorem a7j {α:Type} (ids:Option (List Nat)) (xss:List α) (i:Nat) (h:i<dB ids xss):(bZ ids xss)[i]?=some (nameAt ids i):=by
 cases ids with
 | none=>simp only[bZ,nameAt];rw[Bc (show i<xss.length from h)]
 | some l=>simp only[bZ,nameAt,bf];rw[bn h];rfl
def b1u (r v:Nat) (ty:Ty) (xs:List ty.den) (n:Int):PK:=some ([0<=n,n<xs.length],.cell r v n.toNat)
def b0A (r v:Nat) (m:Nat) (n:Int):PK:=some ([0<=n,n<m],.cell r v n.toNat)
def b0V (r v id:Nat) (ty:Ty) (xss:List (List ty.den)) (n:Int):PK:=some ([0<=n,n<(rowAt xss id).length],.mpos r v id n.toNat)
def QA (ty:Ty) (xs:List ty.den) (i:Nat):PK:=some ([i<xs.length],.val ty (xs.getD i ty.zero))
def a5t (r v:Nat) (ids:Option (List Nat)) (m i:Nat):PK:=some ([i<m],.mrow r v (nameAt ids i))
def b0U (ks:List K0) (n:Int):PK:=some ([0<=n,n<(ks.length:Int)],.pcl ks n.toNat)
def JY (P:Program) (ρ:Nat->Res) (k:Operand->K):Op->PK
 | .indexAddr s x i=>match k x,k i with
  | .own r v,.val (.int _) n=>match ρ r with
   | .row _ t xs v'=>if gv v==gv v'&&mW P s none t then b1u r v t xs n else none
   | .fro t xs v'=>if gv v==gv v'&&mW P s none t then II t xs (List.length (α:=t.den) xs) n else none
   | .mat _ _ t ids xss v'=>if gv v==gv v'&&mW P s none (.list t) then b0A r v (dB ids xss) n else none
   | _=>none
  | .mrow r v id,.val (.int _) n=>match ρ r with
   | .mat _ _ t ids xss v'=>if v==v'&&mW P s none t then b0V r v id t xss n else none
   | _=>none
  | .pls ks,.val (.int _) n=>if mW P s none (.list .unit) then b0U ks n else none
  | _,_=>none
 | .nilCheck x=>match k x with
  | .ptr r o=>some ([],.ptr r o)
  | _=>none
 | .load t x=>match k x with
  | .pcl ks i=>match ks[i]? with
   | some k0=>if rU P t==some false then some ([],k0K k0) else none
   | none=>none
  | .cell r v i=>match ρ r with
   | .row _ ty xs v'=>if gv v==gv v'&&fitsT P t ty then QA ty xs i else none
   | .mat _ _ ty ids xss v'=>if gv v==gv v'&&fitsT P t (.list ty) then a5t r v' ids (dB ids xss) i else none
   | _=>none
  | .mpos r v id j=>match ρ r with
   | .mat _ _ ty ids xss v'=>if v==v'&&fitsT P t ty then QA ty (rowAt xss id) j else none
   | _=>none
  | .lY r=>match ρ r with
   | .kJ kk=>if rU P t==some false then some ([],kk) else none
   | _=>none
  | _=>none
 | .call { callee:=.builtin .len,args:=xs,argTypes:=ts }=>match xs.toList,ts.toList with
  | [x],[t]=>if rE P t then (match k x with
   | .own r v=>match ρ r with
    | .row _ ty xs v'=>if gv v==gv v' then LX ty xs else none
    | .fro ty xs v'=>if gv v==gv v' then LX ty xs else none
    | .mat _ _ ty ids xss v'=>if gv v==gv v' then some ([],.val (.int .i64) (dB ids xss:Int)) else none
    | _=>none
   | .mrow r v id=>match ρ r with
    | .mat _ _ ty ids xss v'=>if v==v' then LX ty (rowAt xss id) else none
    | _=>none
   | .pls ks=>some ([],.val (.int .i64) (ks.length:Int))
   | _=>none) else none
  | _,_=>none
 | _=>none
section
variable {P:Program} {E:Env} {ρ:Nat->Res} {W w:World}
theorem qM {e:TypeId} {n m:Nat} {v:Value} {cs:List Value} (h:w.ownsRow 0 e n v m cs):∃ p c,v=.slice p m c:=by
 rcases h.2 with⟨rfl,rfl⟩|⟨g,cap,cur,rfl,_⟩
 ·exact⟨_,_,rfl⟩
 ·exact⟨_,_,rfl⟩
theorem TT {e:TypeId} {n m:Nat} {v:Value} {cs:List Value} (h:w.ownsRow 0 e n v m cs) {g:Nat} (hg:bI v=some g):w.rangeAt g 0 cs:=by
 rcases h.2 with⟨rfl,_⟩|⟨g',cap,cur,rfl,_,e3,_,_,_,e7⟩
 ·cases hg
 ·cases hg
  intro j u hu
  rw[ny,xu w _ j cur _ _ e3]
  rw[<-e7] at hu
  have hlt:j<m*n:=by
   have:=(jq.1 hu).1
   rw[ji] at this;omega
  rw[List.getElem?_take,iw hlt] at hu
  simpa using hu
theorem LU {s:TypeId} {t:Ty} {m:Nat} {e:TypeId} {v:Value} {cs:List Value} {n:Int} {kd:IntKind} (hb:mW P s none t=true) (h:w.ownsRow 0 e t.n v m cs) (h0:0<=n) (h1:n<m) :
  ∃ g,bI v=some g/\(Instr.indexAt s v (.int kd n)).run P w=.ok (.pointer (some ⟨g,n.toNat*t.n,none⟩)) w:=by
 obtain⟨e',k4,k5⟩:=nU hb
 obtain⟨⟨i2,hi,hsz⟩,_⟩:=fG k5
 rcases h.2 with⟨rfl,hm⟩|⟨g,cap,cur,rfl,_⟩
 ·omega
 ·refine⟨g,rfl,?_⟩
  simp[Instr.indexAt,asIntOf,dw,jr k4 w,h0,h1,run_sizeOf hi,hsz,Ar]
theorem a1W {t:TypeId} {ty:Ty} {e:TypeId} {v:Value} {cs:List Value} {xs:List ty.den} {i g:Nat} {F:Nat->Prop} (hf:fitsT P t ty=true) (h:w.ownsRow 0 e ty.n v xs.length cs) (hc:chunks (rep F w ty) cs xs) (hi:i<xs.length) (hg:bI v=some g) :
  ∃ u,(loadVar t ⟨g,i*ty.n,none⟩).run P w=.ok u w/\iQ F w ty u (xs.getD i ty.zero):=by
 have hr:=yF (TT h hg) (i*ty.n) ty.n
 rw[ny] at hr
 have hrep:=GV hc hi
 exact⟨_,jM hf hr hrep,_,rfl,hrep⟩
theorem a7g {t:TypeId} {ty:Ty} (h:fitsT P t (.list ty)=true):rU P t=some false:=(fG h).2
theorem JG {t:TypeId} {b o:Nat} {u:Value} (ha:rU P t=some false) (hc:w.cell? ⟨b,o,none⟩=some u):(loadVar t ⟨b,o,none⟩).run P w=.ok u w:=by
 simp[loadVar,dw,FQ ha,hc]
theorem b3U {o:Oper} {ev:Operand->Value} {x:Operand} {t:TypeId} {p:Option Addr} {m c:Nat} (ho:o.op=.call { callee:=.builtin .len,args:=#[x],argTypes:=#[t] }) (ht:rE P t=true) (hx:ev x=.slice p m c):(execOp ev o).run P w=.ok (.value (.int .i64 (m:Int))) w:=by
 unfold rE at ht
 split at ht<;>first|(cases ht;done)|skip
 rename_i e hu
 simp[execOp,ho,resolve,invoke,builtin,dw,hx,Builtin.len_,jr hu w,goInt]
theorem nC {r id ver:Nat} {e e2:TypeId} {t:Ty} {ids:Option (List Nat)} {xss:List (List t.den)} (hM:Mem E ρ W w) (hr:ρ r=.mat e e2 t ids xss ver) (hid:id<xss.length) :
  ∃ cs,w.ownsRow 0 e2 t.n (E.inn r id) (rowAt xss id).length cs/\chunks (rep (fz w E) w t) cs (rowAt xss id)/\CAv bV w (E.inn r id):=by
 have h1:=hM.res r
 rw[hr] at h1
 exact h1.2.2.2.2.2 id _ (by unfold rowAt;rw[bf,bn hid];rfl)
theorem a6X {s:TypeId} {b m:Nat} {kd:IntKind} {n:Int} (hb:mW P s none (.list .unit)=true) (h0:0<=n) (h1:n<m):(Instr.indexAt s (.slice (some ⟨b,0,none⟩) m m) (.int kd n)).run P w=.ok (.pointer (some ⟨b,n.toNat,none⟩)) w:=by
 obtain⟨e',k4,k5⟩:=nU hb
 obtain⟨⟨i2,hi,hsz⟩,_⟩:=fG k5
 have hn:(Ty.list .unit).n=1:=rfl
 rw[hn] at hsz
 simp[Instr.indexAt,asIntOf,dw,jr k4 w,h0,h1,run_sizeOf hi,hsz,Ar]
theorem b4O {k:Operand->K} {ev:Operand->Value} {o:Oper} {vc:List Cd} {kk:K} (h:JY P ρ k o.op=some (vc,kk)) (hv:dH vc) (hM:Mem E ρ W w) (hw:∀ x,(k x).wf ρ) (hk:∀ x,(k x).holds E ρ w (ev x)):zD P E ρ w o ev kk/\kk.wf ρ:=by
 cases ho:o.op<;>rw[ho] at h<;>try (simp[JY] at h;done)
 case indexAddr s x i =>
  simp only[JY] at h
  have hkx:=hk x
  have hwx:=hw x
  have hki:=hk i
  split at h<;>try(cases h;done)
  ·rename_i r v kd n hx hi
   rw[hx] at hkx hwx
   rw[hi] at hki
   have hin:=jX hki
   have h1:=hM.res r
   split at h<;>try(cases h;done)
   ·rename_i e t xs v' hr
    split at h<;>try(cases h;done)
    rename_i hb
    simp only[ay,jl] at hb
    simp only[b1u,ah,au] at h
    obtain⟨rfl,rfl⟩:=h
    rw[hr] at h1
    obtain⟨k1,k2,cs,k3,k4,k5⟩:=h1
    obtain⟨g,g1,g2⟩:=LU (kd:=kd) hb.2 k3 hv.1 hv.2.1
    have hxv:ev x=E.sl r:=hkx (by rw[hr];exact hb.1.symm)
    exact⟨fK (by simp only[execOp,ho];rfl) ⟨_,by rw[hxv,hin];exact g2,fun _=>⟨g,g1,by rw[hr];rfl⟩⟩,hwx⟩
   ·rename_i t xs v' hr
    split at h<;>try(cases h;done)
    rename_i hb
    simp only[ay,jl] at hb
    rw[hr] at h1
    have hxv:ev x=E.sl r:=hkx (by rw[hr];exact hb.1.symm)
    have hwf:kk.wf ρ:=by
     simp only[II,ah,au] at h
     rw[<-h.2];trivial
    refine⟨fK (by simp only[execOp,ho];rfl) ?_,hwf⟩
    rw[hxv,hin]
    exact AB hb.2 h hv h1.2
   ·rename_i e e2 t ids xss v' hr
    split at h<;>try(cases h;done)
    rename_i hb
    simp only[ay,jl] at hb
    simp only[b0A,ah,au] at h
    obtain⟨rfl,rfl⟩:=h
    rw[hr] at h1
    obtain⟨k1,k2,⟨cs,k3,k4,k5⟩,_⟩:=h1
    rw[zM] at k3
    obtain⟨g,g1,g2⟩:=LU (t:=.list t) (kd:=kd) hb.2 k3 hv.1 hv.2.1
    have hxv:ev x=E.sl r:=hkx (by rw[hr];exact hb.1.symm)
    exact⟨fK (by simp only[execOp,ho];rfl) ⟨_,by rw[hxv,hin];exact g2,fun _=>⟨g,g1,by rw[hr];rfl⟩⟩,hwx⟩
  ·rename_i r v id kd n hx hi
   rw[hx] at hkx hwx
   rw[hi] at hki
   have hin:=jX hki
   split at h<;>try(cases h;done)
   rename_i e e2 t ids xss v' hr
   split at h<;>try(cases h;done)
   rename_i hb
   simp only[ay,jl] at hb
   simp only[b0V,ah,au] at h
   obtain⟨rfl,rfl⟩:=h
   have IZ:Res.mY v (ρ r):=by rw[hr];exact hb.1.symm
   have hid:=hwx.2 IZ
   rw[hr] at hid
   obtain⟨cs,k3,k4,k5⟩:=nC hM hr hid
   obtain⟨g,g1,g2⟩:=LU (kd:=kd) hb.2 k3 hv.1 hv.2.1
   have hxv:ev x=E.inn r id:=hkx IZ
   exact⟨fK (by simp only[execOp,ho];rfl) ⟨_,by rw[hxv,hin];exact g2,fun _=>⟨g,g1,by rw[hr];rfl⟩⟩,hwx⟩
  ·rename_i ks kd n hx hi
   rw[hx] at hkx hwx
   rw[hi] at hki
   have hin:=jX hki
   split at h<;>try(cases h;done)
   rename_i hb
   simp only[b0U,ah,au] at h
   obtain⟨rfl,rfl⟩:=h
   obtain⟨b,vs,h1,h2,h3,h4⟩:=hkx
   exact⟨fK (by simp only[execOp,ho];rfl) ⟨_,by rw[h1,hin];exact a6X hb hv.1 hv.2.1,b,vs,rfl,h2,h3,h4⟩,hwx⟩
 case nilCheck x =>
  simp only[JY] at h
  have hkx:=hk x
  have hwx:=hw x
  split at h<;>try(cases h;done)
  rename_i r o hx
  rw[hx] at hkx hwx
  simp only[ah,au] at h
  obtain⟨_,rfl⟩:=h
  obtain⟨b,h1,h2⟩:=hkx
  exact⟨⟨ev x,by simp[execOp,ho,h2],b,h1,h2⟩,hwx⟩
 case load t x =>
  simp only[JY] at h
  have hkx:=hk x
  have hwx:=hw x
  have hload:∀ {b p:Nat} {u:Value} {kk:K},ev x=.pointer (some ⟨b,p,none⟩)->(loadVar t ⟨b,p,none⟩).run P w=.ok u w->kk.holds E ρ w u->zD P E ρ w o ev kk:=fun {b p u kk} h1 h2 h3=>by
   refine fK (s:=Instr.loadAt t (ev x)) (by simp only[execOp,ho]) ⟨u,?_,h3⟩
   rw[h1]
   simp only[Instr.loadAt,Instr.sureAddr,dw,Sem.run_pure,Result.andThen_ok]
   exact h2
  split at h<;>try(cases h;done)
  ·rename_i ks i hx
   rw[hx] at hkx hwx
   split at h<;>try(cases h;done)
   rename_i k0 hk0
   split at h<;>try(cases h;done)
   rename_i ha
   simp only[ah,au] at h
   obtain⟨rfl,rfl⟩:=h
   obtain⟨b,vs,h1,h2,h3,h4⟩:=hkx
   obtain⟨u,hu,hk9⟩:=a3t h4 hk0
   have hc:=h3 i u hu
   rw[ny] at hc
   exact⟨hload h1 (JG (by simpa using ha) hc) (wX.1 hk9),SL.1 (hwx k0 (Bz hk0))⟩
  ·rename_i r v i hx
   rw[hx] at hkx hwx
   have h1:=hM.res r
   split at h<;>try(cases h;done)
   ·rename_i e ty xs v' hr
    split at h<;>try(cases h;done)
    rename_i hb
    simp only[ay,jl] at hb
    simp only[QA,ah,au] at h
    obtain⟨rfl,rfl⟩:=h
    rw[hr] at h1
    obtain⟨k1,k2,cs,k3,k4,k5⟩:=h1
    obtain⟨b,hb1,hb2⟩:=hkx (by rw[hr];exact hb.1.symm)
    rw[hr] at hb2
    obtain⟨u,u1,u2⟩:=a1W hb.2 k3 k4 hv.1 hb1
    exact⟨hload hb2 u1 u2,trivial⟩
   ·rename_i e e2 ty ids xss v' hr
    split at h<;>try(cases h;done)
    rename_i hb
    simp only[ay,jl] at hb
    simp only[a5t,ah,au] at h
    obtain⟨rfl,rfl⟩:=h
    rw[hr] at h1
    obtain⟨k1,k2,⟨cs,k3,k4,k5⟩,k6,_⟩:=h1
    obtain⟨b,hb1,hb2⟩:=hkx (by rw[hr];exact hb.1.symm)
    rw[hr] at hb2
    have hn:=a7j ids xss i hv.1
    have hc:w.cell? ⟨b,i*1,none⟩=some (E.inn r (nameAt ids i)):=by
     have:=TT k3 hb1 i (E.inn r (nameAt ids i)) (by rw[k4,qj,hn];rfl)
     rw[Nat.mul_one]
     rwa [ny] at this
    refine⟨hload hb2 (JG (a7g hb.2) hc) (fun _=>rfl),(by show Res.eF v' (ρ r);rw[hr];exact aj _),fun _=>?_⟩
    rw[hr]
    exact k6 _ (Bz hn)
  ·rename_i r v id j hx
   rw[hx] at hkx hwx
   split at h<;>try(cases h;done)
   rename_i e e2 ty ids xss v' hr
   split at h<;>try(cases h;done)
   rename_i hb
   simp only[ay,jl] at hb
   simp only[QA,ah,au] at h
   obtain⟨rfl,rfl⟩:=h
   have IZ:Res.mY v (ρ r):=by rw[hr];exact hb.1.symm
   have hid:=hwx.2 IZ
   rw[hr] at hid
   obtain⟨cs,k3,k4,k5⟩:=nC hM hr hid
   obtain⟨b,hb1,hb2⟩:=hkx IZ
   rw[hr] at hb2
   obtain⟨u,u1,u2⟩:=a1W hb.2 k3 k4 hv.1 hb1
   exact⟨hload hb2 u1 u2,trivial⟩
  ·rename_i r hx
   rw[hx] at hkx hwx
   split at h<;>try(cases h;done)
   rename_i k9 hr
   split at h<;>try(cases h;done)
   rename_i ha
   simp only[ah,au] at h
   obtain⟨rfl,rfl⟩:=h
   obtain⟨q1,q2,b,u,e,q3,q4,q5,q6⟩:=hM.kbx r k9 hr
   obtain⟨b',hb1,hb2⟩:=hkx (by rw[hr];trivial)
   rw[hb1] at q3;cases q3
   have hc:w.cell? ⟨b,0,none⟩=some u:=by rw[xu w _ _ _ _ _ q4];rfl
   exact⟨hload hb2 (JG (by simpa using ha) hc) q6,q1⟩
 case call c =>
  obtain⟨cl,xs,ts⟩:=c
  cases cl<;>try (simp[JY] at h;done)
  rename_i bi
  cases bi<;>try (simp[JY] at h;done)
  simp only[JY] at h
  split at h<;>try(cases h;done)
  rename_i x t hxs hts
  have hxs:xs=#[x]:=by apply Df;simpa using hxs
  have hts:ts=#[t]:=by apply Df;simpa using hts
  subst hxs hts
  split at h<;>try(cases h;done)
  rename_i ht
  have hkx:=hk x
  have hwx:=hw x
  have fin:∀ {p m c},ev x=.slice p m c->kk=.val (.int .i64) (m:Int)->zD P E ρ w o ev kk/\kk.wf ρ:=fun {p m c} h1 h2=>by
   subst h2
   exact⟨⟨_,b3U ho ht h1,kR _ _⟩,trivial⟩
  split at h<;>try(cases h;done)
  ·rename_i r v hx
   rw[hx] at hkx
   have h1:=hM.res r
   split at h<;>try(cases h;done)
   ·rename_i e ty xs v' hr
    split at h<;>try(cases h;done)
    rename_i hb
    simp only[LX,ah,au] at h
    rw[hr] at h1
    obtain⟨k1,k2,cs,k3,k4,k5⟩:=h1
    have hxv:ev x=E.sl r:=hkx (by rw[hr];exact(by simpa using hb:gv v=gv v').symm)
    obtain⟨p,c,e1⟩:=qM k3
    exact fin (hxv.trans e1) h.2.symm
   ·rename_i ty xs v' hr
    split at h<;>try(cases h;done)
    rename_i hb
    simp only[LX,ah,au] at h
    rw[hr] at h1
    have hxv:ev x=E.sl r:=hkx (by rw[hr];exact(by simpa using hb:gv v=gv v').symm)
    obtain⟨p,c,e1,_⟩:=xE (ρ:=ρ) h1.2
    exact fin (hxv.trans e1) h.2.symm
   ·rename_i e e2 ty ids xss v' hr
    split at h<;>try(cases h;done)
    rename_i hb
    simp only[ah,au] at h
    rw[hr] at h1
    obtain⟨k1,k2,⟨cs,k3,k4,k5⟩,_⟩:=h1
    rw[zM] at k3
    have hxv:ev x=E.sl r:=hkx (by rw[hr];exact(by simpa using hb:gv v=gv v').symm)
    obtain⟨p,c,e1⟩:=qM k3
    exact fin (hxv.trans e1) h.2.symm
  ·rename_i r v id hx
   rw[hx] at hkx hwx
   split at h<;>try(cases h;done)
   rename_i e e2 ty ids xss v' hr
   split at h<;>try(cases h;done)
   rename_i hb
   simp only[LX,ah,au] at h
   have IZ:Res.mY v (ρ r):=by rw[hr];exact(by simpa using hb:v=v').symm
   have hid:=hwx.2 IZ
   rw[hr] at hid
   obtain⟨cs,k3,k4,k5⟩:=nC hM hr hid
   obtain⟨p,c,e1⟩:=qM k3
   exact fin ((hkx IZ).trans e1) h.2.symm
  ·rename_i ks hx
   rw[hx] at hkx
   simp only[ah,au] at h
   obtain⟨b,vs,h1,_⟩:=hkx
   exact fin h1 h.2.symm
end
end
end Go.Proofs.YtbkocjmmbkifjaaGreat
