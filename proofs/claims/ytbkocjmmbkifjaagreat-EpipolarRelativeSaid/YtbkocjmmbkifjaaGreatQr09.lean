/-
  Lemmas for the theorem vrelative28_holds, part 9 of 35.
-/
import Derived.Test.YtbkocjmmbkifjaaGreatQr08
namespace Go.Proofs.YtbkocjmmbkifjaaGreat
open Go Go.RowKit
theorem jq:type_of% @List.mem_map:=@List.mem_map
theorem qo:type_of% @List.getElem?_map:=@List.getElem?_map
theorem jh:type_of% @List.mem_cons:=@List.mem_cons
theorem Ae:type_of% @List.getElem?_range:=@List.getElem?_range
section
set_option linter.unusedSimpArgs false
set_option linter.unusedVariables false
section
variable {P:Program} {E:Env} {ρ:Nat->Res} {W w:World}
theorem rZ:∀ (l:List (Nat × Res)) (ρ:Nat->Res) (r:Nat),l.all (fun q=>q.1 != r)=true->after ρ l r=ρ r
 | [],_,_,_=>rfl
 | (q,x)::l,ρ,r,h=>by simp only[List.all_cons,ay,Eu,ne_eq] at h;rw[after,rZ l _ r h.2,aS _ _ (fun e=>h.1 e.symm)]
theorem kS {o:Oper} {ev:Operand->Value} {s x:Operand} {t:TypeId} (ho:o.op=.call { callee:=.builtin .append,args:=#[s,x],argTypes:=#[t,t] }):execOp ev o=(do pure (.value (<-Builtin.append_ #[t,t] o.type #[ev s,ev x]))):=by simp[execOp,ho,resolve,invoke,builtin]
theorem b3w {T:Told} {k:Operand->K} {ev:Operand->Value} {o:Oper} {vc:List Cd} {kk:K} {l:List (Nat × Res)} (h:CW P T ρ k o.dst o.op=some (vc,kk,l)) (hv:dH vc) (hM:Mem E ρ W w) (hw:∀ x,(k x).wf ρ) (hk:∀ x,(k x).holds E ρ w (ev x)):dV P E ρ W w o ev kk l:=by
 cases ho:o.op<;>rw[ho] at h<;>try (simp[CW] at h;done)
 case buildSlice t len parts =>
  simp only[CW] at h;split at h<;>try(cases h;done)
  rename_i hidx;simp only[ay,jo,jc] at hidx;have hlen:parts.size=len:=by simpa using hidx.1
  have b8p:execOp ev o=(do pure (.value (<-Instr.buildSlice t len ((((parts.toList.map fun q=>ev q.2).zipIdx 0).map fun p=>(p.2,p.1)).toArray)))):=by
   have:parts.map (fun q=>(q.1,ev q.2))=((((parts.toList.map fun q=>ev q.2).zipIdx 0).map fun p=>(p.2,p.1)).toArray):=by apply Dw;rw[Array.toList_map,TW ev parts.toList 0 hidx.2]
   simp only[execOp,ho,<-this]
  split at h
  ·split at h<;>try(cases h;done)
   rename_i r hd _ ty het;split at h<;>try(cases h;done)
   rename_i e hsb;split at h<;>try(cases h;done)
   rename_i hc;simp only[ay] at hc;simp only[ah,ak] at h;obtain⟨_,rfl,rfl⟩:=h;have hρ:=Res.mV hc.1;have hp0:parts.toList=[]:=ng (by simpa using hlen);have hb:Below w.heap.size w (w.alloc (.cells #[] e)):=(gy _ _).alloc (aj _) _;have hcell:(w.alloc (.cells #[] e)).heap[w.heap.size]?=some (.cells #[] e (0,0)):=Dj w _;have hrun:=run_buildSlice (P:=P) (w:=w) (t:=t) (ty:=ty) (xs:=[]) (vs:=[]) (ps:=[]) (n:=0) hsb rfl .nil;obtain⟨m1,m2⟩:=hM.turn (w':=w.alloc (.cells #[] e)) r (lH.below hb _) (some w.heap.size) (.slice (some ⟨w.heap.size,0,none⟩) 0 0) (.row e ty [] 1)
    ⟨by show bJ E.blk r _ r=bK (bJ E.sl r _ r);rw[aF,aF];rfl,hc.2,[],by
     show World.ownsRow _ _ _ _ (bJ E.sl r _ r) _ _;rw[aF];exact⟨by simp,.inr ⟨w.heap.size,0,#[],rfl,ru _,hcell,aj _,by omega,by simp,by simp⟩⟩,rfl,by
     show CAv _ _ (bJ E.sl r _ r)/\nnS _ (bJ E.sl r _ r);rw[aF];refine⟨?_,fun _ h=>by cases h⟩;intro g hg i u hu;cases hg;rw[yg _ _ _ _ _ _ hcell] at hu;simp at hu⟩ (.inr (.inr rfl)) rfl (fun k e=>by cases e) (fun h=>by rw[hρ] at h;exact h.elim) (fun h=>by rw[hρ] at h;exact h.elim) (fun v h=>by rw[hρ] at h;exact h.elim) (fun v h=>by rw[hρ] at h;exact h.elim) (fun v h=>h.elim)
   refine dV.of b8p ⟨.slice (some ⟨w.heap.size,0,none⟩) 0 0,w.alloc (.cells #[] e),_,?_,m1,m2,?_,?_⟩
   ·rw[hp0];exact hrun
   ·show Res.dW 1 (bJ ρ r _ r);rw[aF];exact aj _
   ·intro _;show _=bJ E.sl r _ r;rw[aF]
  ·split at h<;>try(cases h;done)
   rename_i n dd p ps l' hts;split at h<;>try(cases h;done)
   rename_i xs e hst hsb;simp only[ah,ak] at h;obtain⟨_,rfl,rfl⟩:=h;have b5x:lJ (fun k v=>K.holds E ρ w k v) (parts.toList.map fun q=>k q.2) (parts.toList.map fun q=>ev q.2):=a5D (R:=fun k v=>K.holds E ρ w k v) hk parts.toList;obtain⟨E1,m1,m2,m3⟩:=a1Z hts hM (fun k9 hk9=>by
    obtain⟨q,_,rfl⟩:=jq.1 hk9;exact hw q.2) b5x
   have hst2:mD p.t (p::ps)=some (p.x::xs):=by
    simp only[mD,hst];have:gK p.t p.t p.x=some p.x:=by simp[gK]
    rw[this]
   have hv2:=SA hst2 m3;have hvl:(parts.toList.map fun q=>ev q.2).length=n+1:=by simpa using hlen
   have hrun:=run_buildSlice (P:=P) (w:=w) (t:=t) (ty:=p.t) (xs:=p.x::xs) (ps:=p::ps) hsb hvl hv2;obtain⟨q1,q2,q3⟩:=ZW hst2 m3;generalize hcs:((parts.toList.map fun q=>ev q.2).map fun v=>v.cells.toList).flatten=cs at *
   have hb:Below w.heap.size w (w.alloc (.cells cs.toArray e)):=(gy _ _).alloc (aj _) _;have hcell:(w.alloc (.cells cs.toArray e)).heap[w.heap.size]?=some (.cells cs.toArray e (0,0)):=Dj w _;obtain⟨n1,n2⟩:=m1.grows hb;have hxl:(p.x::xs).length=n+1:=by
    have hal:∀ {ps:List Part} {xs:List p.t.den},mD p.t ps=some xs->xs.length=ps.length:=by
     intro ps
     induction ps with
     | nil=>intro xs h;simp only[mD,ah] at h;subst h;rfl
     | cons a b ih =>
      intro xs h;simp only[mD] at h;split at h<;>try(cases h;done)
      rename_i x xs' h1 h2;simp only[ah] at h;subst h;simp[ih h2]
    rw[hal hst2,<-q3];exact hvl
   refine dV.of b8p ⟨_,_,E1,hrun,n1,m2.trans n2,trivial,[.slice (some ⟨w.heap.size,0,none⟩) (n+1) (n+1)],rfl,some ⟨w.heap.size,0,none⟩,n+1,by rw[hxl],Nat.le_of_eq hxl,?_,.inr ⟨w.heap.size,0,cs,rfl,sH (by simp) (m1.base _ (.inr m1.below.size)) (fun r' j9 e9=>?_),fun j u hu=>?_,aZ (fun c y=>bY n2.fz n2.stay p.t c y) _ _ q2⟩⟩
   ·obtain⟨_,_,z3,z4,_⟩:=jS hsb;have:n+1<=(n+1)*p.t.n:=Ed _ z4;omega
   ·have:=m1.lt e9;omega
   ·rw[qg,yg _ _ _ _ _ _ hcell];simpa using hu
  ·cases h
 case call c =>
  obtain⟨cl,xs,ts⟩:=c;cases cl<;>try (simp[CW] at h;done)
  rename_i bi;cases bi<;>try (simp[CW] at h;done)
  simp only[CW] at h;split at h<;>try(cases h;done)
  rename_i s x t t' hxs hts;have exs:xs=#[s,x]:=by rw[<-Array.toArray_toList (xs:=xs),hxs]
  have ets:ts=#[t,t']:=by rw[<-Array.toArray_toList (xs:=ts),hts]
  subst exs ets;split at h<;>try(cases h;done)
  rename_i htt;subst htt;split at h<;>try(cases h;done)
  ·rename_i _ r v hks;split at h<;>try(cases h;done)
   rename_i e ty ys0 v' hr;split at h<;>try(cases h;done)
   rename_i p l' hat;split at h<;>try(cases h;done)
   rename_i vcx ys hcast;split at h<;>try(cases h;done)
   rename_i hc;simp only[ay,jo,jc] at hc;obtain⟨⟨⟨⟨hvv,hsb⟩,hfew⟩,hzb⟩,hall⟩:=hc;simp only[a6p,ah,ak] at h;obtain⟨rfl,rfl,rfl⟩:=h;have hs:ev s=E.sl r:=by have:=hk s;rw[hks] at this;exact this (by rw[hr];exact hvv.symm)
   obtain⟨E1,m1,m2,m3⟩:=a7H hat hM (hw x) (hk x);have hr1:after ρ l' r=.row e ty ys0 v':=by rw[rZ l' ρ r hall];exact hr
   have hsl1:E1.sl r=E.sl r:=(m2.own r v' (by rw[hr];exact aj _) (by rw[hr1];rfl)).2.1;have hres:=m1.res r;rw[hr1] at hres;obtain⟨k1,k2,cs,k3,k4,k5⟩:=hres;obtain⟨s',w',E',g1,g2,g3,g4⟩:=QM (P:=P) (t:=t) (s:=E1.sl r) (x:=ev x) (v0:=nxf v') m1 hsb hfew hzb k2 (k1.trans (mM _)) k3 k4 k5.1 (b2D k5.2) (b0e hcast hv.2 m3) hv.1 (.inr ⟨e,ty,ys0,v',hr1,b2h _,b1r _⟩) o.type;refine dV.of (kS ho) ⟨s',w',E',?_,by rw[gG];exact g2,by rw[gG];exact m2.trans g3,?_,?_⟩
   ·rw[hs,<-hsl1];exact g1
   ·rw[gG];show Res.dW _ (bJ _ r _ r);rw[aF];exact aj _
   ·intro _;exact g4
  ·rename_i r hks hd;split at h<;>try(cases h;done)
   rename_i ty ys l' hat;split at h<;>try(cases h;done)
   rename_i e hsb;split at h<;>try(cases h;done)
   rename_i hc;simp only[ay,jo,jc] at hc;obtain⟨⟨⟨⟨hrn,hst⟩,hfew⟩,hzb⟩,hall⟩:=hc;simp only[a6p,ah,ak] at h;obtain⟨rfl,rfl,rfl⟩:=h;have hs:ev s=.slice none 0 0:=by have:=hk s;rw[hks] at this;exact this
   obtain⟨E1,m1,m2,m3⟩:=a7H hat hM (hw x) (hk x);have hr1:after ρ l' r=.none:=by rw[rZ l' ρ r hall];exact Res.mV hrn
   have hblk:E1.blk r=none:=by have:=m1.res r;rw[hr1] at this;exact this
   obtain⟨s',w',E',g1,g2,g3,g4⟩:=QM (P:=P) (t:=t) (s:=.slice none 0 0) (x:=ev x) (xs:=[]) (cs:=[]) (v0:=nxf 0) m1 hsb hfew hzb hst hblk (Bg w _ _ _) rfl (fun g hg=>by cases hg) (fun h=>by cases h) m3 hv.1 (.inl hr1) o.type;refine dV.of (kS ho) ⟨s',w',E',?_,by rw[gG];exact g2,by rw[gG];exact m2.trans g3,?_,?_⟩
   ·rw[hs];exact g1
   ·rw[gG];show Res.dW _ (bJ _ r _ r);rw[aF];exact aj _
   ·intro _;exact g4
end
end
set_option linter.unusedSimpArgs false
set_option linter.unusedVariables false
structure Ctr where
 args:List Ty
 res:List Ty
 pre:(nest args).den->Prop
 fn:(nest args).den->(nest res).den
 [dec:∀ x,Dc (pre x)]
def rF (F:Nat->Prop) (w:World):(ts:List Ty)->Value->(nest ts).den->Prop
 | [t],v,x=>jU F w t v x.1
 | ts,v,x=>∃ vs,v=.tuple vs.toArray/\jE F w ts vs x
def newF (F:Nat->Prop) (w w':World) (q:Nat):Prop:=(F q\/w.heap.size<=q)/\q<w'.heap.size
def aJ (P:Program) (f:FuncId) (c:Ctr):Prop:=∀ (F:Nat->Prop) (w:World) (vs:List Value) (x:(nest c.args).den),(∀ q,F q->q<w.heap.size)->jE F w c.args vs x->c.pre x ->
 Calls P f vs.toArray w fun e w'=>∃ v,e=.returned v/\rF (newF F w w') w' c.res v (c.fn x)/\Below w.heap.size w w'
def b3o:(ts:List Ty)->(nest ts).den->K
 | [t],x=>.val t x.1
 | ts,x=>.tup ts x
section
def VT:Ty->List Part
 | .pair a b=>⟨a,a.zero⟩::VT b
 | .arr n t=>List.replicate n ⟨t,t.zero⟩
 | _=>[]
def ZE:List Part->Part
 | []=>⟨.unit,()⟩
 | p::ps=>⟨.pair p.t (ZE ps).t,(p.x,(ZE ps).x)⟩
def c4A:List Part->Option Part
 | []=>none
 | p::ps=>(mD p.t (p::ps)).map fun xs=>⟨.arr (ps.length+1) p.t,xs⟩
def a3H (k:Operand->K):List Part->List (Nat × Operand)->Option (List Part)
 | ps,[]=>some ps
 | ps,(i,x)::l=>match ps[i]?,k x with
  | some q,.val t y=>if t.n=q.t.n&&t.agg==q.t.agg then a3H k (ps.set i ⟨t,y⟩) l else none
  | some ⟨.list t,_⟩,.nil=>a3H k (ps.set i ⟨.list t,[]⟩) l
  | _,_=>none
def ZJ (P:Program):List Field->List Part->Nat->Bool
 | [],[],_=>true
 | f::fs,p::ps,o=>f.offset==o&&(P.info? f.type).map (·.size)==some p.t.n&&ZJ P fs ps (o+p.t.n)
 | _,_,_=>false
def DT (ps:List Part):Bool:=ps.all fun p=>p.t.zc.isSome
def a7x:Ty->Bool
 | .pair _ b=>a7x b
 | .unit=>true
 | _=>false
def b0R (P:Program) (t:TypeId) (ty:Ty):Bool:=ty.agg&&match P.underlying t with
 | some (.struct fs)=>fs.toList.all fun f=>(P.info? f.type).isSome
 | some (.array _ e)=>(P.info? e).isSome
 | _=>false
def a9O (n:Nat):Ty->Option Ty
 | .arr m u=>if n=m then some u else none
 | _=>none
def b8b (P:Program) (e:TypeId) (u:Ty):Bool:=(P.info? e).map (·.size)==some u.n&&u.zc.isSome
def rowB (P:Program) (fs:Array Field) (ty:Ty):Bool:=ZJ P fs.toList (VT ty) 0&&DT (VT ty)&&a7x ty
def a7c (p:Part):List Cd × K:=([],.val p.t p.x)
def a4O (P:Program) (k:Operand->K) (ty:Ty) (l:List (Nat × Operand)):TypeDesc->PK
 | .struct fs=>if rowB P fs ty then (a3H k (VT ty) l).map fun ps=>a7c (ZE ps) else none
 | .array n e=>match a9O n ty with
  | some u=>if b8b P e u then ((a3H k (List.replicate n ⟨u,u.zero⟩) l).bind c4A).map a7c else none
  | none=>none
 | _=>none
def QI (P:Program) (T:Told) (k:Operand->K):Op->PK
 | .build t parts=>match (T.ty t).map (bTy parts.isEmpty),P.underlying t with
  | some ty,some d=>if a0q P t ty then (if parts.isEmpty then (if b0R P t ty then some ([],.val ty ty.zero) else none) else a4O P k ty parts.toList d) else none
  | _,_=>none
 | _=>none
section
variable {P:Program} {E:Env} {ρ:Nat->Res} {w:World}
def wI (F:Nat->Prop) (w:World) (css:List (List Value)) (ps:List Part):Prop:=lJ (fun c (p:Part)=>rep F w p.t c p.x) css ps
theorem TK:∀ (css:List (List Value)) (i:Nat) (c d:List Value),css[i]?=some c->(css.set i d).flatten=css.flatten.take ((css.take i).map List.length).sum++d++css.flatten.drop (((css.take i).map List.length).sum+c.length)
 | [],i,c,d,h=>by simp at h
 | a::css,0,c,d,h=>by simp only[List.getElem?_cons_zero,ah] at h;subst h;simp
 | a::css,i+1,c,d,h=>by
  have ih:=TK css i c d (by simpa using h);rw[List.set_cons_succ,List.flatten_cons,ih,List.flatten_cons];simp only[List.take_succ_cons,yw,List.sum_cons];generalize ((css.take i).map List.length).sum=s;have e1:(a++css.flatten).take (a.length+s)=a++css.flatten.take s:=by rw[List.take_append,jf (by omega),Ee]
  have e2:(a++css.flatten).drop (a.length+s+c.length)=css.flatten.drop (s+c.length):=by rw[Nat.add_assoc,List.drop_append,List.drop_of_length_le (by omega),Ee,List.nil_append]
  rw[e1,e2];simp
theorem a5C {α β:Type} {R:α->β->Prop}:∀ {l:List α} {m:List β} {i:Nat} {b:β},lJ R l m->m[i]?=some b->∃ a,l[i]?=some a/\R a b
 | _,_,i,b,.nil,h=>by simp at h
 | _,_,0,b,.cons (a:=a) h1 _,h=>by simp only[List.getElem?_cons_zero,ah] at h;subst h;exact⟨a,rfl,h1⟩
 | _,_,i+1,b,.cons _ h2,h=>by obtain⟨a,k1,k2⟩:=a5C h2 (by simpa using h);exact⟨a,by simpa using k1,k2⟩
theorem a1V {α β:Type} {R:α->β->Prop}:∀ {l:List α} {m:List β} {i:Nat} {a:α} {b:β},lJ R l m->R a b->lJ R (l.set i a) (m.set i b)
 | _,_,_,_,_,.nil,_=>.nil
 | _,_,0,_,_,.cons _ h2,h=>.cons h h2
 | _,_,i+1,_,_,.cons h1 h2,h=>.cons h1 (a1V h2 h)
def lU (ps:List Part) (i:Nat):Nat:=((ps.take i).map (·.t.n)).sum
theorem a6T {F:Nat->Prop}:∀ {css:List (List Value)} {ps:List Part} (i:Nat),wI F w css ps->((css.take i).map List.length).sum=lU ps i
 | _,_,i,.nil=>by simp[lU]
 | _,_,0,.cons _ _=>by simp[lU]
 | _,_,i+1,.cons h1 h2=>by
  have:=a6T i h2;simp only[lU,List.take_succ_cons,yw,List.sum_cons] at *
  rw[this,dL _ _ _ h1]
theorem a2A {F:Nat->Prop}:∀ {css:List (List Value)} {ps:List Part},wI F w css ps->css.flatten.length=(ps.map (·.t.n)).sum
 | _,_,.nil=>rfl
 | _,_,.cons h1 h2=>by simp only[List.flatten_cons,dh,yw,List.sum_cons];rw[a2A h2,dL _ _ _ h1]
theorem b2I:∀ {ps:List Part} {i:Nat} {q:Part},ps[i]?=some q->lU ps i+q.t.n<=(ps.map (·.t.n)).sum
 | p::ps,0,q,h=>by simp only[List.getElem?_cons_zero,ah] at h;subst h;simp[lU]
 | p::ps,i+1,q,h=>by
  have:=b2I (ps:=ps) (i:=i) (q:=q) (by simpa using h);simp only[lU,List.take_succ_cons,yw,List.sum_cons] at *
  omega
 | [],i,q,h=>by simp at h
theorem a6S {ps:List Part} {i:Nat} {q p:Part} (h:ps[i]?=some q) (hn:p.t.n=q.t.n) (j:Nat):lU (ps.set i p) j=lU ps j:=by
 unfold lU;rw[List.map_take,List.map_take,List.map_set];congr 2;apply List.ext_getElem?;intro x;rw[List.getElem?_set];split
 ·rename_i e;subst e;rw[qo,h];have:i<ps.length:=(jy.1 h).1;simp[this,hn]
 ·rfl
theorem GV {k:Operand->K} {ev:Operand->Value} (hk:∀ x,(k x).holds E ρ w (ev x)) (place:Nat->Option (Nat × Nat)):∀ {l:List (Nat × Operand)} {ps qs:List Part} {css:List (List Value)} {a:Array Value},a3H k ps l=some qs->wI (fz w E) w css ps->a.toList=css.flatten->(∀ i q,ps[i]?=some q->place i=some (lU ps i,q.t.n)) ->
  ∃ a' SQ,Instr.fill place a (l.map fun q=>(q.1,ev q.2))=some a'/\a'.toList=SQ.flatten/\wI (fz w E) w SQ qs
 | [],ps,qs,css,a,h,hp,ha,hpl=>by simp only[a3H,ah] at h;subst h;exact⟨a,css,rfl,ha,hp⟩
 | (i,x)::l,ps,qs,css,a,h,hp,ha,hpl=>by
  have step:∀ (q p:Part) (v:Value),ps[i]?=some q->p.t.n=q.t.n->ev x=v->jU (fz w E) w p.t v p.x->a3H k (ps.set i p) l=some qs ->
    ∃ a' SQ,Instr.fill place a (((i,x)::l).map fun q=>(q.1,ev q.2))=some a'/\a'.toList=SQ.flatten/\wI (fz w E) w SQ qs:=by
   intro q p v hq hn hv hr hset;obtain⟨cs,hvc,hrep⟩:=hr;obtain⟨c,hc,hcr⟩:=a5C hp hq;have hlc:=dL _ _ _ hcr;have hls:=dL _ _ _ hrep;have hcells:v.cells=cs.toArray:=by rw[hvc];exact pF p.t cs p.x hrep
   have hoff:=a6T i hp;have hle:=b2I hq;have hal:a.size=(ps.map (·.t.n)).sum:=by rw[<-Array.length_toList,ha,a2A hp]
   have hfold:=a2C cs (lU ps i) 0 a (by rw[hal,hls,hn];omega);rw[Nat.add_zero] at hfold;have YR:=TK css i c cs hc;rw[hoff] at YR;have key:(v.cells.zipIdx.foldl (fun cs (p:Value × Nat)=>cs.setIfInBounds (lU ps i+p.2) p.1) a)=((cs.zipIdx 0).foldl (fun cs (p:Value × Nat)=>cs.setIfInBounds (lU ps i+p.2) p.1) a):=by rw[hcells,<-Array.foldl_toList];congr 1;simp
   obtain⟨a',SQ,k1,k2,k3⟩:=GV hk place (a:=((cs.zipIdx 0).foldl (fun cs (p:Value × Nat)=>cs.setIfInBounds (lU ps i+p.2) p.1) a)) hset (a1V hp hrep) (by rw[hfold,YR,ha];rw[show cs.length=c.length by rw[hls,hn,hlc]]) (fun j q' hq'=>by
    by_cases e:i=j
    ·subst e;have hil:i<ps.length:=(jy.1 hq).1;rw[List.getElem?_set_self hil] at hq';cases hq';rw[a6S hq hn,hn];exact hpl i q hq
    ·rw[List.getElem?_set_ne e] at hq';rw[a6S hq hn];exact hpl j q' hq')
   refine⟨a',SQ,?_,k2,k3⟩;rw[yw,Instr.fill];simp only[hpl i q hq,hv];have hz:v.cells.size=q.t.n:=by rw[hcells];simp[hls,hn]
   have hc9:¬ (lU ps i+v.cells.size > a.size):=by rw[hz,hal];omega
   simp only[hz,ne_eq,not_true_eq_false,false_or];rw[hz] at hc9;rw[bn (by simp only[iy hc9];decide)];rw[show (v.cells.zipIdx.foldl (fun cs x=>match x with|(c,j)=>cs.setIfInBounds (lU ps i+j) c) a)=_ from key];exact k1
  simp only[a3H] at h;split at h<;>try(cases h;done)
  ·rename_i q t y hq hkx;split at h<;>try(cases h;done)
   rename_i hb;simp only[ay,jc,jo] at hb;have hh:=hk x;rw[hkx] at hh;exact step q ⟨t,y⟩ (ev x) hq hb.1 rfl hh h
  ·rename_i t y hq hkx;have hh:=hk x;rw[hkx] at hh;exact step _ ⟨.list t,[]⟩ (ev x) hq rfl rfl ⟨[.slice none 0 0],hh,none,0,rfl,by simp,by omega,.inl rfl⟩ h
theorem ZF {F:Nat->Prop}:∀ {css:List (List Value)} {ps:List Part},wI F w css ps->rep F w (ZE ps).t css.flatten (ZE ps).x
 | _,_,.nil=>rfl
 | _,_,.cons h1 h2=>⟨_,_,by rw[List.flatten_cons],h1,ZF h2⟩
theorem a5E {F:Nat->Prop} {t:Ty}:∀ {css:List (List Value)} {ps:List Part} {xs:List t.den},wI F w css ps->mD t ps=some xs->chunks (rep F w t) css.flatten xs/\xs.length=ps.length
 | _,_,xs,.nil,h=>by simp only[mD,ah] at h;subst h;exact⟨rfl,rfl⟩
 | _,_,xs,.cons (a:=c) (b:=p) h1 h2,h=>by
  simp only[mD] at h;split at h<;>try(cases h;done)
  rename_i x xs' k1 k2;simp only[ah] at h;subst h;obtain⟨j1,j2⟩:=a5E h2 k2;obtain⟨pt,px⟩:=p;obtain⟨e,k1⟩:=dO k1;simp only at e;subst e;have k1:px=x:=k1;subst k1;exact⟨⟨c,_,by rw[List.flatten_cons],h1,j1⟩,by simp[j2]⟩
theorem a5z {F:Nat->Prop}:∀ (ps:List Part),DT ps=true->(∀ p ∈ ps,p.x=p.t.zero)->∃ css,wI F w css ps/\css=ps.map (fun p=>p.t.zc.getD [])
 | [],_,_=>⟨[],.nil,rfl⟩
 | p::ps,h,hz=>by simp only[DT,List.all_cons,ay] at h;obtain⟨css,h1,h2⟩:=a5z ps (by unfold DT;exact h.2) (fun p hp=>hz p (jd _ hp));obtain⟨c,hc⟩:=Cc.1 h.1;refine⟨c::css,.cons ?_ h1,by rw[h2,yw,hc];rfl⟩;rw[hz p (je ..)];exact DR p.t c hc
theorem b4j:∀ (t:Ty),∀ p ∈ VT t,p.x=p.t.zero:=by
 intro t
 induction t with
 | pair a b _ ih =>
  intro p hp;rcases jh.1 hp with rfl|hp
  ·rfl
  ·exact ih p hp
 | arr n t _=>intro p hp;rw[(Em.1 hp).2]
 | _=>intro p hp;cases hp
theorem b4i:∀ (t:Ty) (c:List Value),t.zc=some c->a7x t=true->((VT t).map fun p=>p.t.zc.getD []).flatten=c:=by
 intro t
 induction t with
 | pair a b _ ih =>
  intro c h hr;simp only[Ty.zc] at h;split at h<;>try(cases h;done)
  rename_i c1 c2 h1 h2;simp only[ah] at h;subst h;simp only[VT,yw,List.flatten_cons,h1,Option.getD_some];rw[ih c2 h2 hr]
 | unit=>intro c h hr;simp only[Ty.zc,ah] at h;rw[<-h];rfl
 | _=>intro c h hr;simp[a7x] at hr
theorem UW:∀ {fs:List Field} {ps:List Part} {o:Nat},ZJ P fs ps o=true->fs.length=ps.length/\(∃ places,fs.mapM (fun f=>(P.info? f.type).map fun i=>(f.offset,i.size))=some places/\∀ i q,ps[i]?=some q->places[i]?=some (o+lU ps i,q.t.n))
 | [],[],o,_=>⟨rfl,[],rfl,fun i q h=>by simp at h⟩
 | f::fs,p::ps,o,h=>by
  simp only[ZJ,ay,jo] at h;obtain⟨⟨h1,h2⟩,h3⟩:=h;obtain⟨k1,places,k2,k3⟩:=UW h3;cases hi:P.info? f.type with
  | none=>rw[hi] at h2;simp at h2
  | some j =>
   rw[hi] at h2;have h2:j.size=p.t.n:=by simpa using h2
   refine⟨by simp[k1],(o,p.t.n)::places,?_,fun i q hq=>?_⟩
   ·simp only[List.mapM_cons,hi,k2,h1,h2,Option.map_some,Option.bind_eq_bind,Option.bind_some,Option.pure_def]
   ·cases i with
    | zero =>
     simp only[List.getElem?_cons_zero,ah] at hq;subst hq;simp[lU]
    | succ i =>
     have:=k3 i q (by simpa using hq);simp only[List.getElem?_cons_succ,this];simp only[lU,List.take_succ_cons,yw,List.sum_cons];rw[Nat.add_assoc]
 | [],_::_,_,h=>by simp[ZJ] at h
 | _::_,[],_,h=>by simp[ZJ] at h
theorem a8T {t:Ty} {n:Nat} {x:t.den}:∀ (i:Nat),i<=n->lU (List.replicate n ⟨t,x⟩) i=i*t.n:=by intro i hi;unfold lU;rw[List.take_replicate,List.map_replicate,List.sum_replicate_nat];rw[zf hi]
theorem a4f {T:Told} {k:Operand->K} {ev:Operand->Value} {o:Oper} {vc:List Cd} {kk:K} (h:QI P T k o.op=some (vc,kk)) (hk:∀ x,(k x).holds E ρ w (ev x)):zV P E ρ w o ev kk/\kk.wf ρ:=by
 cases ho:o.op<;>rw[ho] at h<;>try (simp[QI] at h;done)
 rename_i t parts;have hmap:(parts.map fun q=>(q.1,ev q.2)).toList=parts.toList.map fun q=>(q.1,ev q.2):=by simp
 have fin:∀ (cells:Array Value),P.built t (parts.toList.map fun q=>(q.1,ev q.2))=some cells->∃ v,(execOp ev o).run P w=.ok (.value v) w/\v=.agg cells:=fun cells hb=>by have:=run_build w t (parts.map fun q=>(q.1,ev q.2)) cells (by rw[hmap];exact hb);exact⟨.agg cells,by simp only[execOp,ho];rw[eu];rw[show (Instr.build t (parts.map fun x=>match x with|(i,x)=>(i,ev x)))=Instr.build t (parts.map fun q=>(q.1,ev q.2)) from rfl,this];rfl,rfl⟩
 simp only[QI] at h;split at h<;>try(cases h;done)
 rename_i ty d hty hu;split at h<;>try(cases h;done)
 rename_i hz;obtain⟨it,z,c,h1,h2,h3,h4,h5⟩:=zG hz;split at h
 ·rename_i hp;have hp:parts.toList=[]:=by simpa using hp
  split at h<;>try(cases h;done)
  rename_i hb;simp only[b0R,hu,ay] at hb;simp only[ah,ak] at h;obtain⟨_,rfl⟩:=h;have b9L:P.built t []=some z.cells:=by
   unfold Program.built;rw[h1,hu];cases d<;>first|(simp at hb;done)|skip
   ·rename_i n e;simp only[h2];cases he:P.info? e with
    | none=>simp[he] at hb
    | some ie=>rfl
   ·rename_i fs;simp only[h2];have hall:∀ f ∈ fs.toList,(P.info? f.type).isSome:=fun f hf=>zh.1 hb.2 f hf;have:∃ places,fs.toList.mapM (fun f=>(P.info? f.type).map fun i=>(f.offset,i.size))=some places:=by
     revert hall;generalize fs.toList=fl
     induction fl with
     | nil=>intro _;exact⟨[],rfl⟩
     | cons f fl ih =>
      intro hall;obtain⟨pl,hpl⟩:=ih (fun f hf=>hall f (jd _ hf));obtain⟨j,hj⟩:=Cc.1 (hall f (je ..));exact⟨(f.offset,j.size)::pl,by simp only[List.mapM_cons,hj,hpl,Option.map_some,Option.bind_eq_bind,Option.bind_some,Option.pure_def]⟩
    obtain⟨places,hpl⟩:=this;rw[hpl];rfl
  obtain⟨v,hr,rfl⟩:=fin z.cells (by rw[hp];exact b9L);refine⟨⟨_,hr,c,?_,DR ty c h3⟩,trivial⟩;rw[<-h4,Ty.toV,hb.1,dn rfl]
 ·cases d<;>try(cases h;done)
  ·rename_i n e;simp only[a4O] at h;split at h<;>try(cases h;done)
   rename_i u hau;split at h<;>try(cases h;done)
   rename_i hb;rw[ig] at h;obtain⟨p,hp1,hp2⟩:=h;rw[Option.bind_eq_some_iff] at hp1;obtain⟨ps,hset,harr⟩:=hp1;simp only[a7c,ak] at hp2;obtain⟨_,rfl⟩:=hp2;have c8R:ty=.arr n u:=by
    cases ty<;>try (simp[a9O] at hau;done)
    simp only[a9O] at hau;split at hau
    ·rename_i e9;simp only[ah] at hau;rw[e9,hau]
    ·cases hau
   subst c8R;simp only[b8b,ay,jo] at hb;obtain⟨hsz,hzc⟩:=hb;obtain⟨css,z1,z2⟩:=a5z (F:=fz w E) (w:=w) (VT (.arr n u)) (by simp[DT,VT,hzc]) (b4j (.arr n u));have YR:z.cells.toList=css.flatten:=by rw[h4,z2];simp only[Ty.zc,ig] at h3;obtain⟨d,h6,rfl⟩:=h3;simp[VT,h6]
   cases hie:P.info? e with
   | none=>rw[hie] at hsz;simp at hsz
   | some ie =>
   rw[hie] at hsz;have hsz:ie.size=u.n:=by simpa using hsz
   obtain⟨a',SQ,f1,f2,f3⟩:=GV hk (fun i=>some (i*ie.size,ie.size)) hset z1 YR (fun i q' hq'=>by
    have hil:i<(List.replicate n (⟨u,u.zero⟩:Part)).length:=(jy.1 hq').1;have c9t:i<n:=by simpa using hil
    have hq2:q'=⟨u,u.zero⟩:=by have:=Dh hq';exact(Em.1 this).2
    rw[hq2,hsz];show some (i*u.n,u.n)=some (lU (List.replicate n ⟨u,u.zero⟩) i,u.n);rw[a8T i (by omega)])
   obtain⟨v,hr,rfl⟩:=fin a' (by
    unfold Program.built;rw[h1,hu];simp only[h2,hie];exact f1)
   cases ps with
   | nil=>simp[c4A] at harr
   | cons p0 ps0 =>
    have harr:(mD p0.t (p0::ps0)).map (fun xs=>(⟨.arr (ps0.length+1) p0.t,xs⟩:Part))=some p:=harr;obtain⟨xs,hx,rfl⟩:=ig.1 harr;obtain⟨j1,j2⟩:=a5E f3 hx;refine⟨⟨_,hr,SQ.flatten,?_,?_,j1⟩,trivial⟩
    ·rw[Ty.toV];show _=Value.agg _;rw[<-f2]
    ·rw[show List.length (α:=p0.t.den) xs=_ from j2];rfl
  ·rename_i fs;simp only[a4O] at h;split at h<;>try(cases h;done)
   rename_i hb;simp only[rowB,ay] at hb;rw[ig] at h;obtain⟨ps,hset,hp2⟩:=h;simp only[a7c,ak] at hp2;obtain⟨_,rfl⟩:=hp2;obtain⟨css,z1,z2⟩:=a5z (F:=fz w E) (w:=w) (VT ty) hb.1.2 (b4j ty);obtain⟨_,places,o1,o2⟩:=UW hb.1.1;have YR:z.cells.toList=css.flatten:=by rw[h4,z2,b4i ty c h3 hb.2]
   obtain⟨a',SQ,f1,f2,f3⟩:=GV hk (fun i=>places.toArray[i]?) hset z1 YR (fun i q' hq'=>by
    have:=o2 i q' hq';rw[qg] at this;simpa using this)
   obtain⟨v,hr,rfl⟩:=fin a' (by
    unfold Program.built;rw[h1,hu];simp only[h2,o1];exact f1)
   have hrep:=ZF f3;refine⟨⟨_,hr,SQ.flatten,?_,hrep⟩,trivial⟩;have:(ZE ps).t.agg=true:=by cases ps<;>rfl
   rw[Ty.toV,this,dn rfl,<-f2]
end
end
section
def eqI (a b:Int):Bool:=a==b
def c8B (a b:Bool):Bool:=a==b
def a2s (P:Program) (t:TypeId):(ty:Ty)->ty.den->ty.den->Option Bool
 | .int _,x,y=>match P.underlying t with
  | some (.int _)=>some (eqI x y)
  | _=>none
 | .bool,x,y=>match P.underlying t with
  | some .bool=>some (c8B x y)
  | _=>none
 | _,_,_=>none
def OU (P:Program):List Field->Nat->(t:Ty)->t.den->t.den->Option Bool
 | [],_,.unit,_,_=>some true
 | f::fs,o,.pair a b,x,y=>if f.offset==o&&f.name != "_" && fitsT P f.type a then (match a2s P f.type a x.1 y.1,OU P fs (o+a.n) b x.2 y.2 with
  | some r,some s=>some (r&&s)
  | _,_=>none) else none
 | _,_,_,_,_=>none
def eqK (P:Program) (op:BinOp) (t:TypeId) (ty:Ty) (x y:ty.den):PK :=
 if ty.agg&&!P.eqGuardType P.depth t&&!P.stoodInHeld t then (match P.underlying t with
  | some (.struct fs)=>match OU P fs.toList 0 ty x y,op with
   | some r,.eql=>some ([],.val .bool r)
   | some r,.neq=>some ([],.val .bool (!r))
   | _,_=>none
  | _=>none) else none
def b5o (P:Program) (k:Operand->K):Op->PK
 | .binOp op t x y _=>match k x,k y with
  | .val ty a,.val ty' b=>match gK ty' ty b with
   | some b=>eqK P op t ty a b
   | none=>none
  | _,_=>none
 | _=>none
section
variable {P:Program} {E:Env} {ρ:Nat->Res} {w:World}
theorem b0S {t:TypeId} {ty:Ty} {x y:ty.den} {r:Bool} {F:Nat->Prop} {d:Nat} (h:a2s P t ty x y=some r) {c c':List Value} (h1:rep F w ty c x) (h2:rep F w ty c' y):(Op.equalIn (d+1) t (ty.toV c) (ty.toV c')).run P w=.ok r w:=by
 cases ty<;>try (simp[a2s] at h;done)
 ·simp only[a2s] at h;split at h<;>try(cases h;done)
  rename_i hu;simp only[ah] at h;subst h;rw[show c=[.bool x] from h1,show c'=[.bool y] from h2];exact run_equalIn_bool w d t x y hu
 ·simp only[a2s] at h;split at h<;>try(cases h;done)
  rename_i k _ _ hu;simp only[ah] at h;subst h;rw[show c=[.int k x] from h1,show c'=[.int k y] from h2];exact run_equalIn_int w d t k _ x y hu
theorem a2t {F:Nat->Prop} {d:Nat}:∀ {fs:List Field} {o:Nat} {t:Ty} {x y:t.den} {r:Bool} {pre pre' c c':List Value},OU P fs o t x y=some r->pre.length=o->pre'.length=o->rep F w t c x->rep F w t c' y ->
  (Op.eqFields (d+1) (pre++c).toArray (pre'++c').toArray fs).run P w=.ok r w
 | [],o,t,x,y,r,pre,pre',c,c',h,hp,hp',h1,h2=>by
  cases t<;>try (simp[OU] at h;done)
  simp only[OU,ah] at h;subst h;rfl
 | f::fs,o,t,x,y,r,pre,pre',c,c',h,hp,hp',h1,h2=>by
  cases t<;>try (simp[OU] at h;done)
  rename_i a b;simp only[OU] at h;split at h<;>try(cases h;done)
  rename_i hb;simp only[ay,jo,Eu,ne_eq] at hb;obtain⟨⟨ho,hn⟩,hf⟩:=hb;split at h<;>try(cases h;done)
  rename_i r1 s1 he hr;simp only[ah] at h;subst h;obtain⟨c1,c2,rfl,k1,k2⟩:=h1;obtain⟨d1,d2,rfl,j1,j2⟩:=h2;have lc:=dL a _ _ k1;have ld:=dL a _ _ j1;have e1:(((pre++(c1++c2)).drop o).take a.n)=c1:=by rw[<-hp,Au,<-lc,Di]
  have e2:(((pre'++(d1++d2)).drop o).take a.n)=d1:=by rw[<-hp',Au,<-ld,Di]
  have p1:=oZ (w:=w) (P:=P) hf (cs:=pre++(c1++c2)) (o:=o) (F:=F) (x:=x.1) (by rw[e1];exact k1);have p2:=oZ (w:=w) (P:=P) hf (cs:=pre'++(d1++d2)) (o:=o) (F:=F) (x:=y.1) (by rw[e2];exact j1);rw[e1] at p1;rw[e2] at p2;simp only[Op.eqFields];rw[dn hn];rw[eu,ho,p1];simp only[Result.andThen_ok,eu];rw[p2];simp only[Result.andThen_ok,b0S (d:=d) he k1 j1];cases r1 with
  | false=>simp
  | true =>
   have ih:=a2t (F:=F) (d:=d) (pre:=pre++c1) (pre':=pre'++d1) hr (by rw[dh,hp,lc]) (by rw[dh,hp',ld]) k2 j2;simp only[Bool.not_true,xu,if_false,Bool.true_and];rw[<-Ar,<-Ar];exact ih
theorem b5p {k:Operand->K} {ev:Operand->Value} {o:Oper} {vc:List Cd} {kk:K} (h:b5o P k o.op=some (vc,kk)) (hk:∀ x,(k x).holds E ρ w (ev x)):zV P E ρ w o ev kk/\kk.wf ρ:=by
 cases ho:o.op<;>rw[ho] at h<;>try (simp[b5o] at h;done)
 rename_i op t x y yt;simp only[b5o] at h;split at h<;>try(cases h;done)
 rename_i ty a ty' b hx hy;split at h<;>try(cases h;done)
 rename_i b' hc;obtain⟨rfl,rfl⟩:=dO hc;have h1:=hk x;have h2:=hk y;rw[hx] at h1;rw[hy] at h2;obtain⟨c,hvx,k1⟩:=h1;obtain⟨c',hvy,k2⟩:=h2;unfold eqK at h;split at h<;>try(cases h;done)
 rename_i hb;simp only[ay,zq] at hb;split at h<;>try(cases h;done)
 rename_i fs hu;have hfs:P.fieldsOf t=fs:=by simp[Program.fieldsOf,hu]
 have hvx:ev x=.agg c.toArray:=by rw[hvx,Ty.toV,hb.1.1,dn rfl]
 have hvy:ev y=.agg c'.toArray:=by rw[hvy,Ty.toV,hb.1.1,dn rfl]
 have hrun:∀ r,OU P fs.toList 0 ty' a b=some r->(Op.equalIn 10000 t (.agg c.toArray) (.agg c'.toArray)).run P w=.ok r w:=fun r hr=>by rw[run_equalIn_struct w 9999 t _ _ (by rw[hfs];exact hu) hb.2,hfs];exact a2t (d:=9998) (pre:=[]) (pre':=[]) hr rfl rfl k1 k2
 split at h<;>try(cases h;done)
 ·rename_i r hr;simp only[ah,ak] at h;obtain⟨_,rfl⟩:=h;refine⟨fQ (by simp only[execOp,ho];rfl) ⟨.bool r,?_,iY _⟩,trivial⟩;rw[hvx,hvy,eu,run_eqGuard_agg w _ _ _ _ _ _ hb.1.2];simp only[Result.andThen_ok];rw[run_eql_struct,hrun r hr];rfl
 ·rename_i r hr;simp only[ah,ak] at h;obtain⟨_,rfl⟩:=h;refine⟨fQ (by simp only[execOp,ho];rfl) ⟨.bool (!r),?_,iY _⟩,trivial⟩;rw[hvx,hvy,eu,run_eqGuard_agg w _ _ _ _ _ _ hb.1.2];simp only[Result.andThen_ok];rw[run_neq_struct,hrun r hr];rfl
end
end
section
def aW {α:Type} (ids:Option (List Nat)) (xss:List α):Nat:=match ids with
 | some l=>l.length
 | none=>xss.length
def nameAt (ids:Option (List Nat)) (i:Nat):Nat:=match ids with
 | some l=>l.getD i 0
 | none=>i
def rowAt {α:Type} (xss:List (List α)) (i:Nat):List α:=xss.getD i []
theorem AL {α:Type} (ids:Option (List Nat)) (xss:List α):(bW ids xss).length=aW ids xss:=by cases ids<;>simp[bW,aW]
theorem a8Q {α:Type} (ids:Option (List Nat)) (xss:List α) (i:Nat) (h:i<aW ids xss):(bW ids xss)[i]?=some (nameAt ids i):=by
 cases ids with
 | none=>simp only[bW,nameAt];rw[Ae (show i<xss.length from h)]
 | some l=>simp only[bW,nameAt,bg];rw[dw h];rfl
def b3v (r v:Nat) (ty:Ty) (xs:List ty.den) (n:Int):PK:=some ([0<=n,n<xs.length],.cell r v n.toNat)
def b2w (r v:Nat) (m:Nat) (n:Int):PK:=some ([0<=n,n<m],.cell r v n.toNat)
def b2U (r v id:Nat) (ty:Ty) (xss:List (List ty.den)) (n:Int):PK:=some ([0<=n,n<(rowAt xss id).length],.mpos r v id n.toNat)
def RH (ty:Ty) (xs:List ty.den) (i:Nat):PK:=some ([i<xs.length],.val ty (xs.getD i ty.zero))
def a6E (r v:Nat) (ids:Option (List Nat)) (m i:Nat):PK:=some ([i<m],.mrow r v (nameAt ids i))
def b2T (ks:List K0) (n:Int):PK:=some ([0<=n,n<(ks.length:Int)],.pcl ks n.toNat)
def KY (P:Program) (ρ:Nat->Res) (k:Operand->K):Op->PK
 | .indexAddr s x i=>match k x,k i with
  | .own r v,.val (.int _) n=>match ρ r with
   | .row _ t xs v'=>if gv v==gv v'&&nP P s none t then b3v r v t xs n else none
   | .fro t xs v'=>if gv v==gv v'&&nP P s none t then JJ t xs (List.length (α:=t.den) xs) n else none
   | .mat _ _ t ids xss v'=>if gv v==gv v'&&nP P s none (.list t) then b2w r v (aW ids xss) n else none
   | _=>none
  | .mrow r v id,.val (.int _) n=>match ρ r with
   | .mat _ _ t ids xss v'=>if v==v'&&nP P s none t then b2U r v id t xss n else none
   | _=>none
  | .pls ks,.val (.int _) n=>if nP P s none (.list .unit) then b2T ks n else none
  | _,_=>none
 | .nilCheck x=>match k x with
  | .ptr r o=>some ([],.ptr r o)
  | _=>none
 | .load t x=>match k x with
  | .pcl ks i=>match ks[i]? with
   | some k0=>if sZ P t==some false then some ([],k0K k0) else none
   | none=>none
  | .cell r v i=>match ρ r with
   | .row _ ty xs v'=>if gv v==gv v'&&fitsT P t ty then RH ty xs i else none
   | .mat _ _ ty ids xss v'=>if gv v==gv v'&&fitsT P t (.list ty) then a6E r v' ids (aW ids xss) i else none
   | _=>none
  | .mpos r v id j=>match ρ r with
   | .mat _ _ ty ids xss v'=>if v==v'&&fitsT P t ty then RH ty (rowAt xss id) j else none
   | _=>none
  | .mW r=>match ρ r with
   | .lG kk=>if sZ P t==some false then some ([],kk) else none
   | _=>none
  | _=>none
 | .call { callee:=.builtin .len,args:=xs,argTypes:=ts }=>match xs.toList,ts.toList with
  | [x],[t]=>if sK P t then (match k x with
   | .own r v=>match ρ r with
    | .row _ ty xs v'=>if gv v==gv v' then NG ty xs else none
    | .fro ty xs v'=>if gv v==gv v' then NG ty xs else none
    | .mat _ _ ty ids xss v'=>if gv v==gv v' then some ([],.val (.int .i64) (aW ids xss:Int)) else none
    | _=>none
   | .mrow r v id=>match ρ r with
    | .mat _ _ ty ids xss v'=>if v==v' then NG ty (rowAt xss id) else none
    | _=>none
   | .pls ks=>some ([],.val (.int .i64) (ks.length:Int))
   | _=>none) else none
  | _,_=>none
 | _=>none
section
variable {P:Program} {E:Env} {ρ:Nat->Res} {W w:World}
theorem rC {e:TypeId} {n m:Nat} {v:Value} {cs:List Value} (h:w.ownsRow 0 e n v m cs):∃ p c,v=.slice p m c:=by
 rcases h.2 with⟨rfl,rfl⟩|⟨g,cap,cur,rfl,_⟩
 ·exact⟨_,_,rfl⟩
 ·exact⟨_,_,rfl⟩
theorem UZ {e:TypeId} {n m:Nat} {v:Value} {cs:List Value} (h:w.ownsRow 0 e n v m cs) {g:Nat} (hg:bK v=some g):w.rangeAt g 0 cs:=by
 rcases h.2 with⟨rfl,_⟩|⟨g',cap,cur,rfl,_,e3,_,_,_,e7⟩
 ·cases hg
 ·cases hg;intro j u hu;rw[qg,yg w _ j cur _ _ e3];rw[<-e7] at hu;have hlt:j<m*n:=by have:=(jy.1 hu).1;rw[jk] at this;omega
  rw[List.getElem?_take,dn hlt] at hu;simpa using hu
theorem MX {s:TypeId} {t:Ty} {m:Nat} {e:TypeId} {v:Value} {cs:List Value} {n:Int} {kd:IntKind} (hb:nP P s none t=true) (h:w.ownsRow 0 e t.n v m cs) (h0:0<=n) (h1:n<m) :
  ∃ g,bK v=some g/\(Instr.indexAt s v (.int kd n)).run P w=.ok (.pointer (some ⟨g,n.toNat*t.n,none⟩)) w:=by
 obtain⟨e',k4,k5⟩:=oQ hb;obtain⟨⟨i2,hi,hsz⟩,_⟩:=fM k5;rcases h.2 with⟨rfl,hm⟩|⟨g,cap,cur,rfl,_⟩
 ·omega
 ·refine⟨g,rfl,?_⟩;simp[Instr.indexAt,asIntOf,eu,ku k4 w,h0,h1,run_sizeOf hi,hsz,Ba]
theorem a3b {t:TypeId} {ty:Ty} {e:TypeId} {v:Value} {cs:List Value} {xs:List ty.den} {i g:Nat} {F:Nat->Prop} (hf:fitsT P t ty=true) (h:w.ownsRow 0 e ty.n v xs.length cs) (hc:chunks (rep F w ty) cs xs) (hi:i<xs.length) (hg:bK v=some g) :
  ∃ u,(loadVar t ⟨g,i*ty.n,none⟩).run P w=.ok u w/\jU F w ty u (xs.getD i ty.zero):=by
 have hr:=yT (UZ h hg) (i*ty.n) ty.n;rw[qg] at hr;have hrep:=JC hc hi;exact⟨_,kM hf hr hrep,_,rfl,hrep⟩
theorem a8N {t:TypeId} {ty:Ty} (h:fitsT P t (.list ty)=true):sZ P t=some false:=(fM h).2
theorem KH {t:TypeId} {b o:Nat} {u:Value} (ha:sZ P t=some false) (hc:w.cell? ⟨b,o,none⟩=some u):(loadVar t ⟨b,o,none⟩).run P w=.ok u w:=by simp[loadVar,eu,GZ ha,hc]
theorem b5S {o:Oper} {ev:Operand->Value} {x:Operand} {t:TypeId} {p:Option Addr} {m c:Nat} (ho:o.op=.call { callee:=.builtin .len,args:=#[x],argTypes:=#[t] }) (ht:sK P t=true) (hx:ev x=.slice p m c):(execOp ev o).run P w=.ok (.value (.int .i64 (m:Int))) w:=by
 unfold sK at ht;split at ht<;>first|(cases ht;done)|skip
 rename_i e hu;simp[execOp,ho,resolve,invoke,builtin,eu,hx,Builtin.len_,ku hu w,goInt]
theorem nU {r id ver:Nat} {e e2:TypeId} {t:Ty} {ids:Option (List Nat)} {xss:List (List t.den)} (hM:Mem E ρ W w) (hr:ρ r=.mat e e2 t ids xss ver) (hid:id<xss.length) :
  ∃ cs,w.ownsRow 0 e2 t.n (E.inn r id) (rowAt xss id).length cs/\chunks (rep (fz w E) w t) cs (rowAt xss id)/\CAv dB w (E.inn r id):=by
 have h1:=hM.res r;rw[hr] at h1;exact h1.2.2.2.2.2 id _ (by unfold rowAt;rw[bg,dw hid];rfl)
theorem a8C {s:TypeId} {b m:Nat} {kd:IntKind} {n:Int} (hb:nP P s none (.list .unit)=true) (h0:0<=n) (h1:n<m):(Instr.indexAt s (.slice (some ⟨b,0,none⟩) m m) (.int kd n)).run P w=.ok (.pointer (some ⟨b,n.toNat,none⟩)) w:=by obtain⟨e',k4,k5⟩:=oQ hb;obtain⟨⟨i2,hi,hsz⟩,_⟩:=fM k5;have hn:(Ty.list .unit).n=1:=rfl;rw[hn] at hsz;simp[Instr.indexAt,asIntOf,eu,ku k4 w,h0,h1,run_sizeOf hi,hsz,Ba]
theorem b6Z {k:Operand->K} {ev:Operand->Value} {o:Oper} {vc:List Cd} {kk:K} (h:KY P ρ k o.op=some (vc,kk)) (hv:dH vc) (hM:Mem E ρ W w) (hw:∀ x,(k x).wf ρ) (hk:∀ x,(k x).holds E ρ w (ev x)):zV P E ρ w o ev kk/\kk.wf ρ:=by
 cases ho:o.op<;>rw[ho] at h<;>try (simp[KY] at h;done)
 case indexAddr s x i =>
  simp only[KY] at h;have hkx:=hk x;have hwx:=hw x;have hki:=hk i;split at h<;>try(cases h;done)
  ·rename_i r v kd n hx hi;rw[hx] at hkx hwx;rw[hi] at hki;have hin:=kT hki;have h1:=hM.res r;split at h<;>try(cases h;done)
   ·rename_i e t xs v' hr;split at h<;>try(cases h;done)
    rename_i hb;simp only[ay,jo] at hb;simp only[b3v,ah,ak] at h;obtain⟨rfl,rfl⟩:=h;rw[hr] at h1;obtain⟨k1,k2,cs,k3,k4,k5⟩:=h1;obtain⟨g,g1,g2⟩:=MX (kd:=kd) hb.2 k3 hv.1 hv.2.1;have hxv:ev x=E.sl r:=hkx (by rw[hr];exact hb.1.symm);exact⟨fQ (by simp only[execOp,ho];rfl) ⟨_,by rw[hxv,hin];exact g2,fun _=>⟨g,g1,by rw[hr];rfl⟩⟩,hwx⟩
   ·rename_i t xs v' hr;split at h<;>try(cases h;done)
    rename_i hb;simp only[ay,jo] at hb;rw[hr] at h1;have hxv:ev x=E.sl r:=hkx (by rw[hr];exact hb.1.symm);have hwf:kk.wf ρ:=by simp only[JJ,ah,ak] at h;rw[<-h.2];trivial
    refine⟨fQ (by simp only[execOp,ho];rfl) ?_,hwf⟩;rw[hxv,hin];exact BG hb.2 h hv h1.2
   ·rename_i e e2 t ids xss v' hr;split at h<;>try(cases h;done)
    rename_i hb;simp only[ay,jo] at hb;simp only[b2w,ah,ak] at h;obtain⟨rfl,rfl⟩:=h;rw[hr] at h1;obtain⟨k1,k2,⟨cs,k3,k4,k5⟩,_⟩:=h1;rw[AL] at k3;obtain⟨g,g1,g2⟩:=MX (t:=.list t) (kd:=kd) hb.2 k3 hv.1 hv.2.1;have hxv:ev x=E.sl r:=hkx (by rw[hr];exact hb.1.symm);exact⟨fQ (by simp only[execOp,ho];rfl) ⟨_,by rw[hxv,hin];exact g2,fun _=>⟨g,g1,by rw[hr];rfl⟩⟩,hwx⟩
  ·rename_i r v id kd n hx hi;rw[hx] at hkx hwx;rw[hi] at hki;have hin:=kT hki;split at h<;>try(cases h;done)
   rename_i e e2 t ids xss v' hr;split at h<;>try(cases h;done)
   rename_i hb;simp only[ay,jo] at hb;simp only[b2U,ah,ak] at h;obtain⟨rfl,rfl⟩:=h;have JX:Res.nT v (ρ r):=by rw[hr];exact hb.1.symm
   have hid:=hwx.2 JX;rw[hr] at hid;obtain⟨cs,k3,k4,k5⟩:=nU hM hr hid;obtain⟨g,g1,g2⟩:=MX (kd:=kd) hb.2 k3 hv.1 hv.2.1;have hxv:ev x=E.inn r id:=hkx JX;exact⟨fQ (by simp only[execOp,ho];rfl) ⟨_,by rw[hxv,hin];exact g2,fun _=>⟨g,g1,by rw[hr];rfl⟩⟩,hwx⟩
  ·rename_i ks kd n hx hi;rw[hx] at hkx hwx;rw[hi] at hki;have hin:=kT hki;split at h<;>try(cases h;done)
   rename_i hb;simp only[b2T,ah,ak] at h;obtain⟨rfl,rfl⟩:=h;obtain⟨b,vs,h1,h2,h3,h4⟩:=hkx;exact⟨fQ (by simp only[execOp,ho];rfl) ⟨_,by rw[h1,hin];exact a8C hb hv.1 hv.2.1,b,vs,rfl,h2,h3,h4⟩,hwx⟩
 case nilCheck x =>
  simp only[KY] at h;have hkx:=hk x;have hwx:=hw x;split at h<;>try(cases h;done)
  rename_i r o hx;rw[hx] at hkx hwx;simp only[ah,ak] at h;obtain⟨_,rfl⟩:=h;obtain⟨b,h1,h2⟩:=hkx;exact⟨⟨ev x,by simp[execOp,ho,h2],b,h1,h2⟩,hwx⟩
 case load t x =>
  simp only[KY] at h;have hkx:=hk x;have hwx:=hw x;have hload:∀ {b p:Nat} {u:Value} {kk:K},ev x=.pointer (some ⟨b,p,none⟩)->(loadVar t ⟨b,p,none⟩).run P w=.ok u w->kk.holds E ρ w u->zV P E ρ w o ev kk:=fun {b p u kk} h1 h2 h3=>by refine fQ (s:=Instr.loadAt t (ev x)) (by simp only[execOp,ho]) ⟨u,?_,h3⟩;rw[h1];simp only[Instr.loadAt,Instr.sureAddr,eu,Sem.run_pure,Result.andThen_ok];exact h2
  split at h<;>try(cases h;done)
  ·rename_i ks i hx;rw[hx] at hkx hwx;split at h<;>try(cases h;done)
   rename_i k0 hk0;split at h<;>try(cases h;done)
   rename_i ha;simp only[ah,ak] at h;obtain⟨rfl,rfl⟩:=h;obtain⟨b,vs,h1,h2,h3,h4⟩:=hkx;obtain⟨u,hu,hk9⟩:=a4D h4 hk0;have hc:=h3 i u hu;rw[qg] at hc;exact⟨hload h1 (KH (by simpa using ha) hc) (xU.1 hk9),UC.1 (hwx k0 (Dh hk0))⟩
  ·rename_i r v i hx;rw[hx] at hkx hwx;have h1:=hM.res r;split at h<;>try(cases h;done)
   ·rename_i e ty xs v' hr;split at h<;>try(cases h;done)
    rename_i hb;simp only[ay,jo] at hb;simp only[RH,ah,ak] at h;obtain⟨rfl,rfl⟩:=h;rw[hr] at h1;obtain⟨k1,k2,cs,k3,k4,k5⟩:=h1;obtain⟨b,hb1,hb2⟩:=hkx (by rw[hr];exact hb.1.symm);rw[hr] at hb2;obtain⟨u,u1,u2⟩:=a3b hb.2 k3 k4 hv.1 hb1;exact⟨hload hb2 u1 u2,trivial⟩
   ·rename_i e e2 ty ids xss v' hr;split at h<;>try(cases h;done)
    rename_i hb;simp only[ay,jo] at hb;simp only[a6E,ah,ak] at h;obtain⟨rfl,rfl⟩:=h;rw[hr] at h1;obtain⟨k1,k2,⟨cs,k3,k4,k5⟩,k6,_⟩:=h1;obtain⟨b,hb1,hb2⟩:=hkx (by rw[hr];exact hb.1.symm);rw[hr] at hb2;have hn:=a8Q ids xss i hv.1;have hc:w.cell? ⟨b,i*1,none⟩=some (E.inn r (nameAt ids i)):=by have:=UZ k3 hb1 i (E.inn r (nameAt ids i)) (by rw[k4,qo,hn];rfl);rw[Nat.mul_one];rwa [qg] at this
    refine⟨hload hb2 (KH (a8N hb.2) hc) (fun _=>rfl),(by show Res.dW v' (ρ r);rw[hr];exact aj _),fun _=>?_⟩;rw[hr];exact k6 _ (Dh hn)
  ·rename_i r v id j hx;rw[hx] at hkx hwx;split at h<;>try(cases h;done)
   rename_i e e2 ty ids xss v' hr;split at h<;>try(cases h;done)
   rename_i hb;simp only[ay,jo] at hb;simp only[RH,ah,ak] at h;obtain⟨rfl,rfl⟩:=h;have JX:Res.nT v (ρ r):=by rw[hr];exact hb.1.symm
   have hid:=hwx.2 JX;rw[hr] at hid;obtain⟨cs,k3,k4,k5⟩:=nU hM hr hid;obtain⟨b,hb1,hb2⟩:=hkx JX;rw[hr] at hb2;obtain⟨u,u1,u2⟩:=a3b hb.2 k3 k4 hv.1 hb1;exact⟨hload hb2 u1 u2,trivial⟩
  ·rename_i r hx;rw[hx] at hkx hwx;split at h<;>try(cases h;done)
   rename_i k9 hr;split at h<;>try(cases h;done)
   rename_i ha;simp only[ah,ak] at h;obtain⟨rfl,rfl⟩:=h;obtain⟨q1,q2,b,u,e,q3,q4,q5,q6⟩:=hM.kbx r k9 hr;obtain⟨b',hb1,hb2⟩:=hkx (by rw[hr];trivial);rw[hb1] at q3;cases q3;have hc:w.cell? ⟨b,0,none⟩=some u:=by rw[yg w _ _ _ _ _ q4];rfl
   exact⟨hload hb2 (KH (by simpa using ha) hc) q6,q1⟩
 case call c =>
  obtain⟨cl,xs,ts⟩:=c;cases cl<;>try (simp[KY] at h;done)
  rename_i bi;cases bi<;>try (simp[KY] at h;done)
  simp only[KY] at h;split at h<;>try(cases h;done)
  rename_i x t hxs hts;have hxs:xs=#[x]:=by apply Dw;simpa using hxs
  have hts:ts=#[t]:=by apply Dw;simpa using hts
  subst hxs hts;split at h<;>try(cases h;done)
  rename_i ht;have hkx:=hk x;have hwx:=hw x;have fin:∀ {p m c},ev x=.slice p m c->kk=.val (.int .i64) (m:Int)->zV P E ρ w o ev kk/\kk.wf ρ:=fun {p m c} h1 h2=>by subst h2;exact⟨⟨_,b5S ho ht h1,lI _ _⟩,trivial⟩
  split at h<;>try(cases h;done)
  ·rename_i r v hx;rw[hx] at hkx;have h1:=hM.res r;split at h<;>try(cases h;done)
   ·rename_i e ty xs v' hr;split at h<;>try(cases h;done)
    rename_i hb;simp only[NG,ah,ak] at h;rw[hr] at h1;obtain⟨k1,k2,cs,k3,k4,k5⟩:=h1;have hxv:ev x=E.sl r:=hkx (by rw[hr];exact(by simpa using hb:gv v=gv v').symm);obtain⟨p,c,e1⟩:=rC k3;exact fin (hxv.trans e1) h.2.symm
   ·rename_i ty xs v' hr;split at h<;>try(cases h;done)
    rename_i hb;simp only[NG,ah,ak] at h;rw[hr] at h1;have hxv:ev x=E.sl r:=hkx (by rw[hr];exact(by simpa using hb:gv v=gv v').symm);obtain⟨p,c,e1,_⟩:=yC (ρ:=ρ) h1.2;exact fin (hxv.trans e1) h.2.symm
   ·rename_i e e2 ty ids xss v' hr;split at h<;>try(cases h;done)
    rename_i hb;simp only[ah,ak] at h;rw[hr] at h1;obtain⟨k1,k2,⟨cs,k3,k4,k5⟩,_⟩:=h1;rw[AL] at k3;have hxv:ev x=E.sl r:=hkx (by rw[hr];exact(by simpa using hb:gv v=gv v').symm);obtain⟨p,c,e1⟩:=rC k3;exact fin (hxv.trans e1) h.2.symm
  ·rename_i r v id hx;rw[hx] at hkx hwx;split at h<;>try(cases h;done)
   rename_i e e2 ty ids xss v' hr;split at h<;>try(cases h;done)
   rename_i hb;simp only[NG,ah,ak] at h;have JX:Res.nT v (ρ r):=by rw[hr];exact(by simpa using hb:v=v').symm
   have hid:=hwx.2 JX;rw[hr] at hid;obtain⟨cs,k3,k4,k5⟩:=nU hM hr hid;obtain⟨p,c,e1⟩:=rC k3;exact fin ((hkx JX).trans e1) h.2.symm
  ·rename_i ks hx;rw[hx] at hkx;simp only[ah,ak] at h;obtain⟨b,vs,h1,_⟩:=hkx;exact fin h1 h.2.symm
end
end
end Go.Proofs.YtbkocjmmbkifjaaGreat
