/-
  Lemmas for the theorem vstations28_holds, part 10 of 34.
-/
import Derived.Test.YtbkocjmmbkifjaaGreatQs09
namespace Go.Proofs.YtbkocjmmbkifjaaGreat
open Go Go.RowKit
theorem xk:type_of% @List.getElem?_map:=@List.getElem?_map
theorem qh:type_of% @List.mem_cons:=@List.mem_cons
theorem Bf:type_of% @List.getElem?_range:=@List.getElem?_range
section
set_option linter.unusedSimpArgs false
set_option linter.unusedVariables false
def UU:Ty->List Part
 | .pair a b=>⟨a,a.zero⟩::UU b
 | .arr n t=>List.replicate n ⟨t,t.zero⟩
 | _=>[]
def YC:List Part->Part
 | []=>⟨.unit,()⟩
 | p::ps=>⟨.pair p.t (YC ps).t,(p.x,(YC ps).x)⟩
def c1s:List Part->Option Part
 | []=>none
 | p::ps=>(lF p.t (p::ps)).map fun xs=>⟨.arr (ps.length+1) p.t,xs⟩
def a2S (k:Operand->K):List Part->List (Nat × Operand)->Option (List Part)
 | ps,[]=>some ps
 | ps,(i,x)::l=>match ps[i]?,k x with
  | some q,.val t y=>if t.n=q.t.n&&t.agg==q.t.agg then a2S k (ps.set i ⟨t,y⟩) l else none
  | some ⟨.list t,_⟩,.nil=>a2S k (ps.set i ⟨.list t,[]⟩) l
  | _,_=>none
def YG (P:Program):List Field->List Part->Nat->Bool
 | [],[],_=>true
 | f::fs,p::ps,o=>f.offset==o&&(P.info? f.type).map (·.size)==some p.t.n&&YG P fs ps (o+p.t.n)
 | _,_,_=>false
def BR (ps:List Part):Bool:=ps.all fun p=>p.t.zc.isSome
def a6o:Ty->Bool
 | .pair _ b=>a6o b
 | .unit=>true
 | _=>false
def a9z (P:Program) (t:TypeId) (ty:Ty):Bool:=ty.agg&&match P.underlying t with
 | some (.struct fs)=>fs.toList.all fun f=>(P.info? f.type).isSome
 | some (.array _ e)=>(P.info? e).isSome
 | _=>false
def a8z (n:Nat):Ty->Option Ty
 | .arr m u=>if n=m then some u else none
 | _=>none
def b5W (P:Program) (e:TypeId) (u:Ty):Bool:=(P.info? e).map (·.size)==some u.n&&u.zc.isSome
def rowB (P:Program) (fs:Array Field) (ty:Ty):Bool:=YG P fs.toList (UU ty) 0&&BR (UU ty)&&a6o ty
def a6a (p:Part):List Cd × K:=([],.val p.t p.x)
def a4a (P:Program) (k:Operand->K) (ty:Ty) (l:List (Nat × Operand)):TypeDesc->PK
 | .struct fs=>if rowB P fs ty then (a2S k (UU ty) l).map fun ps=>a6a (YC ps) else none
 | .array n e=>match a8z n ty with
  | some u=>if b5W P e u then ((a2S k (List.replicate n ⟨u,u.zero⟩) l).bind c1s).map a6a else none
  | none=>none
 | _=>none
def OG (P:Program) (T:Told) (k:Operand->K):Op->PK
 | .build t parts=>match (T.ty t).map (bTy parts.isEmpty),P.underlying t with
  | some ty,some d=>if ZL P t ty then (if parts.isEmpty then (if a9z P t ty then some ([],.val ty ty.zero) else none) else a4a P k ty parts.toList d) else none
  | _,_=>none
 | _=>none
section
variable {P:Program} {E:Env} {ρ:Nat->Res} {w:World}
def vH (F:Nat->Prop) (w:World) (css:List (List Value)) (ps:List Part):Prop:=kK (fun c (p:Part)=>rep F w p.t c p.x) css ps
theorem RG:∀ (css:List (List Value)) (i:Nat) (c d:List Value),css[i]?=some c->(css.set i d).flatten=css.flatten.take ((css.take i).map List.length).sum++d++css.flatten.drop (((css.take i).map List.length).sum+c.length)
 | [],i,c,d,h=>by simp at h
 | a::css,0,c,d,h=>by
  simp only[List.getElem?_cons_zero,ak] at h
  subst h
  simp
 | a::css,i+1,c,d,h=>by
  have ih:=RG css i c d (by simpa using h)
  rw[List.set_cons_succ,List.flatten_cons,ih,List.flatten_cons]
  simp only[List.take_succ_cons,zf,List.sum_cons]
  generalize ((css.take i).map List.length).sum=s
  have e1:(a++css.flatten).take (a.length+s)=a++css.flatten.take s:=by rw[List.take_append,jv (by omega),Dv]
  have e2:(a++css.flatten).drop (a.length+s+c.length)=css.flatten.drop (s+c.length):=by rw[Nat.add_assoc,List.drop_append,List.drop_of_length_le (by omega),Dv,List.nil_append]
  rw[e1,e2]
  simp
theorem a4N {α β:Type} {R:α->β->Prop}:∀ {l:List α} {m:List β} {i:Nat} {b:β},kK R l m->m[i]?=some b->∃ a,l[i]?=some a/\R a b
 | _,_,i,b,.nil,h=>by simp at h
 | _,_,0,b,.cons (a:=a) h1 _,h=>by
  simp only[List.getElem?_cons_zero,ak] at h
  subst h
  exact⟨a,rfl,h1⟩
 | _,_,i+1,b,.cons _ h2,h=>by
  obtain⟨a,k1,k2⟩:=a4N h2 (by simpa using h)
  exact⟨a,by simpa using k1,k2⟩
theorem a1t {α β:Type} {R:α->β->Prop}:∀ {l:List α} {m:List β} {i:Nat} {a:α} {b:β},kK R l m->R a b->kK R (l.set i a) (m.set i b)
 | _,_,_,_,_,.nil,_=>.nil
 | _,_,0,_,_,.cons _ h2,h=>.cons h h2
 | _,_,i+1,_,_,.cons h1 h2,h=>.cons h1 (a1t h2 h)
def kX (ps:List Part) (i:Nat):Nat:=((ps.take i).map (·.t.n)).sum
theorem a5S {F:Nat->Prop}:∀ {css:List (List Value)} {ps:List Part} (i:Nat),vH F w css ps->((css.take i).map List.length).sum=kX ps i
 | _,_,i,.nil=>by simp[kX]
 | _,_,0,.cons _ _=>by simp[kX]
 | _,_,i+1,.cons h1 h2=>by
  have:=a5S i h2
  simp only[kX,List.take_succ_cons,zf,List.sum_cons] at *
  rw[this,dI _ _ _ h1]
theorem a1Q {F:Nat->Prop}:∀ {css:List (List Value)} {ps:List Part},vH F w css ps->css.flatten.length=(ps.map (·.t.n)).sum
 | _,_,.nil=>rfl
 | _,_,.cons h1 h2=>by
  simp only[List.flatten_cons,jl,zf,List.sum_cons]
  rw[a1Q h2,dI _ _ _ h1]
theorem b1m:∀ {ps:List Part} {i:Nat} {q:Part},ps[i]?=some q->kX ps i+q.t.n<=(ps.map (·.t.n)).sum
 | p::ps,0,q,h=>by
  simp only[List.getElem?_cons_zero,ak] at h
  subst h
  simp[kX]
 | p::ps,i+1,q,h=>by
  have:=b1m (ps:=ps) (i:=i) (q:=q) (by simpa using h)
  simp only[kX,List.take_succ_cons,zf,List.sum_cons] at *
  omega
 | [],i,q,h=>by simp at h
theorem a5R {ps:List Part} {i:Nat} {q p:Part} (h:ps[i]?=some q) (hn:p.t.n=q.t.n) (j:Nat):kX (ps.set i p) j=kX ps j:=by
 unfold kX
 rw[List.map_take,List.map_take,List.map_set]
 congr 2
 apply List.ext_getElem?
 intro x
 rw[List.getElem?_set]
 split
 ·rename_i e
  subst e
  rw[xk,h]
  have:i<ps.length:=(ql.1 h).1
  simp[this,hn]
 ·rfl
theorem ET {k:Operand->K} {ev:Operand->Value} (hk:∀ x,(k x).holds E ρ w (ev x)) (place:Nat->Option (Nat × Nat)):∀ {l:List (Nat × Operand)} {ps qs:List Part} {css:List (List Value)} {a:Array Value},a2S k ps l=some qs->vH (fz w E) w css ps->a.toList=css.flatten->(∀ i q,ps[i]?=some q->place i=some (kX ps i,q.t.n)) ->
  ∃ a' QN,Instr.fill place a (l.map fun q=>(q.1,ev q.2))=some a'/\a'.toList=QN.flatten/\vH (fz w E) w QN qs
 | [],ps,qs,css,a,h,hp,ha,hpl=>by
  simp only[a2S,ak] at h
  subst h
  exact⟨a,css,rfl,ha,hp⟩
 | (i,x)::l,ps,qs,css,a,h,hp,ha,hpl=>by
  have step:∀ (q p:Part) (v:Value),ps[i]?=some q->p.t.n=q.t.n->ev x=v->iY (fz w E) w p.t v p.x->a2S k (ps.set i p) l=some qs ->
    ∃ a' QN,Instr.fill place a (((i,x)::l).map fun q=>(q.1,ev q.2))=some a'/\a'.toList=QN.flatten/\vH (fz w E) w QN qs:=by
   intro q p v hq hn hv hr hset
   obtain⟨cs,hvc,hrep⟩:=hr
   obtain⟨c,hc,hcr⟩:=a4N hp hq
   have hlc:=dI _ _ _ hcr
   have hls:=dI _ _ _ hrep
   have hcells:v.cells=cs.toArray:=by rw[hvc];exact nS p.t cs p.x hrep
   have hoff:=a5S i hp
   have hle:=b1m hq
   have hal:a.size=(ps.map (·.t.n)).sum:=by rw[<-Array.length_toList,ha,a1Q hp]
   have hfold:=a1S cs (kX ps i) 0 a (by rw[hal,hls,hn];omega)
   rw[Nat.add_zero] at hfold
   have XM:=RG css i c cs hc
   rw[hoff] at XM
   have key:(v.cells.zipIdx.foldl (fun cs (p:Value × Nat)=>cs.setIfInBounds (kX ps i+p.2) p.1) a)=((cs.zipIdx 0).foldl (fun cs (p:Value × Nat)=>cs.setIfInBounds (kX ps i+p.2) p.1) a):=by
    rw[hcells,<-Array.foldl_toList];congr 1
    simp
   obtain⟨a',QN,k1,k2,k3⟩:=ET hk place (a:=((cs.zipIdx 0).foldl (fun cs (p:Value × Nat)=>cs.setIfInBounds (kX ps i+p.2) p.1) a)) hset (a1t hp hrep) (by rw[hfold,XM,ha];rw[show cs.length=c.length by rw[hls,hn,hlc]]) (fun j q' hq'=>by
    by_cases e:i=j
    ·subst e
     have hil:i<ps.length:=(ql.1 hq).1
     rw[List.getElem?_set_self hil] at hq'
     cases hq'
     rw[a5R hq hn,hn];exact hpl i q hq
    ·rw[List.getElem?_set_ne e] at hq'
     rw[a5R hq hn];exact hpl j q' hq')
   refine⟨a',QN,?_,k2,k3⟩
   rw[zf,Instr.fill]
   simp only[hpl i q hq,hv]
   have hz:v.cells.size=q.t.n:=by rw[hcells];simp[hls,hn]
   have hc9:¬ (kX ps i+v.cells.size > a.size):=by rw[hz,hal];omega
   simp only[hz,ne_eq,not_true_eq_false,false_or]
   rw[hz] at hc9
   rw[ji (by simp only[ny hc9];decide)]
   rw[show (v.cells.zipIdx.foldl (fun cs x=>match x with|(c,j)=>cs.setIfInBounds (kX ps i+j) c) a)=_ from key]
   exact k1
  simp only[a2S] at h
  split at h<;>try(cases h;done)
  ·rename_i q t y hq hkx
   split at h<;>try(cases h;done)
   rename_i hb
   simp only[au,aj,jf] at hb
   have hh:=hk x
   rw[hkx] at hh
   exact step q ⟨t,y⟩ (ev x) hq hb.1 rfl hh h
  ·rename_i t y hq hkx
   have hh:=hk x
   rw[hkx] at hh
   exact step _ ⟨.list t,[]⟩ (ev x) hq rfl rfl ⟨[.slice none 0 0],hh,none,0,rfl,by simp,by omega,.inl rfl⟩ h
theorem YD {F:Nat->Prop}:∀ {css:List (List Value)} {ps:List Part},vH F w css ps->rep F w (YC ps).t css.flatten (YC ps).x
 | _,_,.nil=>rfl
 | _,_,.cons h1 h2=>⟨_,_,by rw[List.flatten_cons],h1,YD h2⟩
theorem a4Q {F:Nat->Prop} {t:Ty}:∀ {css:List (List Value)} {ps:List Part} {xs:List t.den},vH F w css ps->lF t ps=some xs->chunks (rep F w t) css.flatten xs/\xs.length=ps.length
 | _,_,xs,.nil,h=>by
  simp only[lF,ak] at h
  subst h
  exact⟨rfl,rfl⟩
 | _,_,xs,.cons (a:=c) (b:=p) h1 h2,h=>by
  simp only[lF] at h
  split at h<;>try(cases h;done)
  rename_i x xs' k1 k2
  simp only[ak] at h
  subst h
  obtain⟨j1,j2⟩:=a4Q h2 k2
  obtain⟨pt,px⟩:=p
  obtain⟨e,k1⟩:=dL k1
  simp only at e
  subst e
  have k1:px=x:=k1
  subst k1
  exact⟨⟨c,_,by rw[List.flatten_cons],h1,j1⟩,by simp[j2]⟩
theorem a4J {F:Nat->Prop}:∀ (ps:List Part),BR ps=true->(∀ p ∈ ps,p.x=p.t.zero)->∃ css,vH F w css ps/\css=ps.map (fun p=>p.t.zc.getD [])
 | [],_,_=>⟨[],.nil,rfl⟩
 | p::ps,h,hz=>by
  simp only[BR,List.all_cons,au] at h
  obtain⟨css,h1,h2⟩:=a4J ps (by unfold BR;exact h.2) (fun p hp=>hz p (ku _ hp))
  obtain⟨c,hc⟩:=Bo.1 h.1
  refine⟨c::css,.cons ?_ h1,by rw[h2,zf,hc];rfl⟩
  rw[hz p (mg ..)]
  exact BP p.t c hc
theorem b2M:∀ (t:Ty),∀ p ∈ UU t,p.x=p.t.zero:=by
 intro t
 induction t with
 | pair a b _ ih =>
  intro p hp
  rcases qh.1 hp with rfl|hp
  ·rfl
  ·exact ih p hp
 | arr n t _=>intro p hp;rw[(Ea.1 hp).2]
 | _=>intro p hp;cases hp
theorem b2L:∀ (t:Ty) (c:List Value),t.zc=some c->a6o t=true->((UU t).map fun p=>p.t.zc.getD []).flatten=c:=by
 intro t
 induction t with
 | pair a b _ ih =>
  intro c h hr
  simp only[Ty.zc] at h
  split at h<;>try(cases h;done)
  rename_i c1 c2 h1 h2
  simp only[ak] at h
  subst h
  simp only[UU,zf,List.flatten_cons,h1,Option.getD_some]
  rw[ih c2 h2 hr]
 | unit=>intro c h hr;simp only[Ty.zc,ak] at h;rw[<-h];rfl
 | _=>intro c h hr;simp[a6o] at hr
theorem TS:∀ {fs:List Field} {ps:List Part} {o:Nat},YG P fs ps o=true->fs.length=ps.length/\(∃ places,fs.mapM (fun f=>(P.info? f.type).map fun i=>(f.offset,i.size))=some places/\∀ i q,ps[i]?=some q->places[i]?=some (o+kX ps i,q.t.n))
 | [],[],o,_=>⟨rfl,[],rfl,fun i q h=>by simp at h⟩
 | f::fs,p::ps,o,h=>by
  simp only[YG,au,jf] at h
  obtain⟨⟨h1,h2⟩,h3⟩:=h
  obtain⟨k1,places,k2,k3⟩:=TS h3
  cases hi:P.info? f.type with
  | none=>rw[hi] at h2;simp at h2
  | some j =>
   rw[hi] at h2
   have h2:j.size=p.t.n:=by simpa using h2
   refine⟨by simp[k1],(o,p.t.n)::places,?_,fun i q hq=>?_⟩
   ·simp only[List.mapM_cons,hi,k2,h1,h2,Option.map_some,Option.bind_eq_bind,Option.bind_some,Option.pure_def]
   ·cases i with
    | zero =>
     simp only[List.getElem?_cons_zero,ak] at hq
     subst hq
     simp[kX]
    | succ i =>
     have:=k3 i q (by simpa using hq)
     simp only[List.getElem?_cons_succ,this]
     simp only[kX,List.take_succ_cons,zf,List.sum_cons]
     rw[Nat.add_assoc]
 | [],_::_,_,h=>by simp[YG] at h
 | _::_,[],_,h=>by simp[YG] at h
theorem a7F {t:Ty} {n:Nat} {x:t.den}:∀ (i:Nat),i<=n->kX (List.replicate n ⟨t,x⟩) i=i*t.n:=by
 intro i hi
 unfold kX
 rw[List.take_replicate,List.map_replicate,List.sum_replicate_nat]
 rw[zh hi]
theorem a3r {T:Told} {k:Operand->K} {ev:Operand->Value} {o:Oper} {vc:List Cd} {kk:K} (h:OG P T k o.op=some (vc,kk)) (hk:∀ x,(k x).holds E ρ w (ev x)):yT P E ρ w o ev kk/\kk.wf ρ:=by
 cases ho:o.op<;>rw[ho] at h<;>try (simp[OG] at h;done)
 rename_i t parts
 have hmap:(parts.map fun q=>(q.1,ev q.2)).toList=parts.toList.map fun q=>(q.1,ev q.2):=by simp
 have fin:∀ (cells:Array Value),P.built t (parts.toList.map fun q=>(q.1,ev q.2))=some cells->∃ v,(execOp ev o).run P w=.ok (.value v) w/\v=.agg cells:=fun cells hb=>by
  have:=run_build w t (parts.map fun q=>(q.1,ev q.2)) cells (by rw[hmap];exact hb)
  exact⟨.agg cells,by simp only[execOp,ho];rw[jq];rw[show (Instr.build t (parts.map fun x=>match x with|(i,x)=>(i,ev x)))=Instr.build t (parts.map fun q=>(q.1,ev q.2)) from rfl,this];rfl,rfl⟩
 simp only[OG] at h
 split at h<;>try(cases h;done)
 rename_i ty d hty hu
 split at h<;>try(cases h;done)
 rename_i hz
 obtain⟨it,z,c,h1,h2,h3,h4,h5⟩:=yG hz
 split at h
 ·rename_i hp
  have hp:parts.toList=[]:=by simpa using hp
  split at h<;>try(cases h;done)
  rename_i hb
  simp only[a9z,hu,au] at hb
  simp only[ak,dh] at h
  obtain⟨_,rfl⟩:=h
  have b7d:P.built t []=some z.cells:=by
   unfold Program.built
   rw[h1,hu]
   cases d<;>first|(simp at hb;done)|skip
   ·rename_i n e
    simp only[h2]
    cases he:P.info? e with
    | none=>simp[he] at hb
    | some ie=>rfl
   ·rename_i fs
    simp only[h2]
    have hall:∀ f ∈ fs.toList,(P.info? f.type).isSome:=fun f hf=>Bz.1 hb.2 f hf
    have:∃ places,fs.toList.mapM (fun f=>(P.info? f.type).map fun i=>(f.offset,i.size))=some places:=by
     revert hall
     generalize fs.toList=fl
     induction fl with
     | nil=>intro _;exact⟨[],rfl⟩
     | cons f fl ih =>
      intro hall
      obtain⟨pl,hpl⟩:=ih (fun f hf=>hall f (ku _ hf))
      obtain⟨j,hj⟩:=Bo.1 (hall f (mg ..))
      exact⟨(f.offset,j.size)::pl,by simp only[List.mapM_cons,hj,hpl,Option.map_some,Option.bind_eq_bind,Option.bind_some,Option.pure_def]⟩
    obtain⟨places,hpl⟩:=this
    rw[hpl]
    rfl
  obtain⟨v,hr,rfl⟩:=fin z.cells (by rw[hp];exact b7d)
  refine⟨⟨_,hr,c,?_,BP ty c h3⟩,trivial⟩
  rw[<-h4,Ty.toV,hb.1,jm rfl]
 ·cases d<;>try(cases h;done)
  ·rename_i n e
   simp only[a4a] at h
   split at h<;>try(cases h;done)
   rename_i u hau
   split at h<;>try(cases h;done)
   rename_i hb
   rw[jw] at h
   obtain⟨p,hp1,hp2⟩:=h
   rw[Option.bind_eq_some_iff] at hp1
   obtain⟨ps,hset,harr⟩:=hp1
   simp only[a6a,dh] at hp2
   obtain⟨_,rfl⟩:=hp2
   have c4Y:ty=.arr n u:=by
    cases ty<;>try (simp[a8z] at hau;done)
    simp only[a8z] at hau
    split at hau
    ·rename_i e9
     simp only[ak] at hau
     rw[e9,hau]
    ·cases hau
   subst c4Y
   simp only[b5W,au,jf] at hb
   obtain⟨hsz,hzc⟩:=hb
   obtain⟨css,z1,z2⟩:=a4J (F:=fz w E) (w:=w) (UU (.arr n u)) (by simp[BR,UU,hzc]) (b2M (.arr n u))
   have XM:z.cells.toList=css.flatten:=by
    rw[h4,z2]
    simp only[Ty.zc,jw] at h3
    obtain⟨d,h6,rfl⟩:=h3
    simp[UU,h6]
   cases hie:P.info? e with
   | none=>rw[hie] at hsz;simp at hsz
   | some ie =>
   rw[hie] at hsz
   have hsz:ie.size=u.n:=by simpa using hsz
   obtain⟨a',QN,f1,f2,f3⟩:=ET hk (fun i=>some (i*ie.size,ie.size)) hset z1 XM (fun i q' hq'=>by
    have hil:i<(List.replicate n (⟨u,u.zero⟩:Part)).length:=(ql.1 hq').1
    have c5u:i<n:=by simpa using hil
    have hq2:q'=⟨u,u.zero⟩:=by
     have:=Cc hq'
     exact(Ea.1 this).2
    rw[hq2,hsz]
    show some (i*u.n,u.n)=some (kX (List.replicate n ⟨u,u.zero⟩) i,u.n)
    rw[a7F i (by omega)])
   obtain⟨v,hr,rfl⟩:=fin a' (by
    unfold Program.built
    rw[h1,hu]
    simp only[h2,hie]
    exact f1)
   cases ps with
   | nil=>simp[c1s] at harr
   | cons p0 ps0 =>
    have harr:(lF p0.t (p0::ps0)).map (fun xs=>(⟨.arr (ps0.length+1) p0.t,xs⟩:Part))=some p:=harr
    obtain⟨xs,hx,rfl⟩:=jw.1 harr
    obtain⟨j1,j2⟩:=a4Q f3 hx
    refine⟨⟨_,hr,QN.flatten,?_,?_,j1⟩,trivial⟩
    ·rw[Ty.toV];show _=Value.agg _;rw[<-f2]
    ·rw[show List.length (α:=p0.t.den) xs=_ from j2];rfl
  ·rename_i fs
   simp only[a4a] at h
   split at h<;>try(cases h;done)
   rename_i hb
   simp only[rowB,au] at hb
   rw[jw] at h
   obtain⟨ps,hset,hp2⟩:=h
   simp only[a6a,dh] at hp2
   obtain⟨_,rfl⟩:=hp2
   obtain⟨css,z1,z2⟩:=a4J (F:=fz w E) (w:=w) (UU ty) hb.1.2 (b2M ty)
   obtain⟨_,places,o1,o2⟩:=TS hb.1.1
   have XM:z.cells.toList=css.flatten:=by rw[h4,z2,b2L ty c h3 hb.2]
   obtain⟨a',QN,f1,f2,f3⟩:=ET hk (fun i=>places.toArray[i]?) hset z1 XM (fun i q' hq'=>by
    have:=o2 i q' hq'
    rw[tu] at this
    simpa using this)
   obtain⟨v,hr,rfl⟩:=fin a' (by
    unfold Program.built
    rw[h1,hu]
    simp only[h2,o1]
    exact f1)
   have hrep:=YD f3
   refine⟨⟨_,hr,QN.flatten,?_,hrep⟩,trivial⟩
   have:(YC ps).t.agg=true:=by cases ps<;>rfl
   rw[Ty.toV,this,jm rfl,<-f2]
end
end
section
set_option linter.unusedSimpArgs false
set_option linter.unusedVariables false
def eqI (a b:Int):Bool:=a==b
def c4H (a b:Bool):Bool:=a==b
def a1H (P:Program) (t:TypeId):(ty:Ty)->ty.den->ty.den->Option Bool
 | .int _,x,y=>match P.underlying t with
  | some (.int _)=>some (eqI x y)
  | _=>none
 | .bool,x,y=>match P.underlying t with
  | some .bool=>some (c4H x y)
  | _=>none
 | _,_,_=>none
def NI (P:Program):List Field->Nat->(t:Ty)->t.den->t.den->Option Bool
 | [],_,.unit,_,_=>some true
 | f::fs,o,.pair a b,x,y=>if f.offset==o&&f.name != "_" && fitsT P f.type a then (match a1H P f.type a x.1 y.1,NI P fs (o+a.n) b x.2 y.2 with
  | some r,some s=>some (r&&s)
  | _,_=>none) else none
 | _,_,_,_,_=>none
def eqK (P:Program) (op:BinOp) (t:TypeId) (ty:Ty) (x y:ty.den):PK :=
 if ty.agg&&!P.eqGuardType P.depth t&&!P.stoodInHeld t then (match P.underlying t with
  | some (.struct fs)=>match NI P fs.toList 0 ty x y,op with
   | some r,.eql=>some ([],.val .bool r)
   | some r,.neq=>some ([],.val .bool (!r))
   | _,_=>none
  | _=>none) else none
def b3A (P:Program) (k:Operand->K):Op->PK
 | .binOp op t x y _=>match k x,k y with
  | .val ty a,.val ty' b=>match fU ty' ty b with
   | some b=>eqK P op t ty a b
   | none=>none
  | _,_=>none
 | _=>none
section
variable {P:Program} {E:Env} {ρ:Nat->Res} {w:World}
theorem a9C {t:TypeId} {ty:Ty} {x y:ty.den} {r:Bool} {F:Nat->Prop} {d:Nat} (h:a1H P t ty x y=some r) {c c':List Value} (h1:rep F w ty c x) (h2:rep F w ty c' y):(Op.equalIn (d+1) t (ty.toV c) (ty.toV c')).run P w=.ok r w:=by
 cases ty<;>try (simp[a1H] at h;done)
 ·simp only[a1H] at h
  split at h<;>try(cases h;done)
  rename_i hu
  simp only[ak] at h
  subst h
  rw[show c=[.bool x] from h1,show c'=[.bool y] from h2]
  exact run_equalIn_bool w d t x y hu
 ·simp only[a1H] at h
  split at h<;>try(cases h;done)
  rename_i k _ _ hu
  simp only[ak] at h
  subst h
  rw[show c=[.int k x] from h1,show c'=[.int k y] from h2]
  exact run_equalIn_int w d t k _ x y hu
theorem a1I {F:Nat->Prop} {d:Nat}:∀ {fs:List Field} {o:Nat} {t:Ty} {x y:t.den} {r:Bool} {pre pre' c c':List Value},NI P fs o t x y=some r->pre.length=o->pre'.length=o->rep F w t c x->rep F w t c' y ->
  (Op.eqFields (d+1) (pre++c).toArray (pre'++c').toArray fs).run P w=.ok r w
 | [],o,t,x,y,r,pre,pre',c,c',h,hp,hp',h1,h2=>by
  cases t<;>try (simp[NI] at h;done)
  simp only[NI,ak] at h
  subst h
  rfl
 | f::fs,o,t,x,y,r,pre,pre',c,c',h,hp,hp',h1,h2=>by
  cases t<;>try (simp[NI] at h;done)
  rename_i a b
  simp only[NI] at h
  split at h<;>try(cases h;done)
  rename_i hb
  simp only[au,jf,jy,ne_eq] at hb
  obtain⟨⟨ho,hn⟩,hf⟩:=hb
  split at h<;>try(cases h;done)
  rename_i r1 s1 he hr
  simp only[ak] at h
  subst h
  obtain⟨c1,c2,rfl,k1,k2⟩:=h1
  obtain⟨d1,d2,rfl,j1,j2⟩:=h2
  have lc:=dI a _ _ k1
  have ld:=dI a _ _ j1
  have e1:(((pre++(c1++c2)).drop o).take a.n)=c1:=by rw[<-hp,Az,<-lc,Ce]
  have e2:(((pre'++(d1++d2)).drop o).take a.n)=d1:=by rw[<-hp',Az,<-ld,Ce]
  have p1:=nO (w:=w) (P:=P) hf (cs:=pre++(c1++c2)) (o:=o) (F:=F) (x:=x.1) (by rw[e1];exact k1)
  have p2:=nO (w:=w) (P:=P) hf (cs:=pre'++(d1++d2)) (o:=o) (F:=F) (x:=y.1) (by rw[e2];exact j1)
  rw[e1] at p1
  rw[e2] at p2
  simp only[Op.eqFields]
  rw[jm hn]
  rw[jq,ho,p1]
  simp only[Result.andThen_ok,jq]
  rw[p2]
  simp only[Result.andThen_ok,a9C (d:=d) he k1 j1]
  cases r1 with
  | false=>simp
  | true =>
   have ih:=a1I (F:=F) (d:=d) (pre:=pre++c1) (pre':=pre'++d1) hr (by rw[jl,hp,lc]) (by rw[jl,hp',ld]) k2 j2
   simp only[Bool.not_true,Ad,if_false,Bool.true_and]
   rw[<-wz,<-wz]
   exact ih
theorem b3B {k:Operand->K} {ev:Operand->Value} {o:Oper} {vc:List Cd} {kk:K} (h:b3A P k o.op=some (vc,kk)) (hk:∀ x,(k x).holds E ρ w (ev x)):yT P E ρ w o ev kk/\kk.wf ρ:=by
 cases ho:o.op<;>rw[ho] at h<;>try (simp[b3A] at h;done)
 rename_i op t x y yt
 simp only[b3A] at h
 split at h<;>try(cases h;done)
 rename_i ty a ty' b hx hy
 split at h<;>try(cases h;done)
 rename_i b' hc
 obtain⟨rfl,rfl⟩:=dL hc
 have h1:=hk x
 have h2:=hk y
 rw[hx] at h1
 rw[hy] at h2
 obtain⟨c,hvx,k1⟩:=h1
 obtain⟨c',hvy,k2⟩:=h2
 unfold eqK at h
 split at h<;>try(cases h;done)
 rename_i hb
 simp only[au,dw] at hb
 split at h<;>try(cases h;done)
 rename_i fs hu
 have hfs:P.fieldsOf t=fs:=by simp[Program.fieldsOf,hu]
 have hvx:ev x=.agg c.toArray:=by rw[hvx,Ty.toV,hb.1.1,jm rfl]
 have hvy:ev y=.agg c'.toArray:=by rw[hvy,Ty.toV,hb.1.1,jm rfl]
 have hrun:∀ r,NI P fs.toList 0 ty' a b=some r->(Op.equalIn 10000 t (.agg c.toArray) (.agg c'.toArray)).run P w=.ok r w:=fun r hr=>by
  rw[run_equalIn_struct w 9999 t _ _ (by rw[hfs];exact hu) hb.2,hfs]
  exact a1I (d:=9998) (pre:=[]) (pre':=[]) hr rfl rfl k1 k2
 split at h<;>try(cases h;done)
 ·rename_i r hr
  simp only[ak,dh] at h
  obtain⟨_,rfl⟩:=h
  refine⟨fH (by simp only[execOp,ho];rfl) ⟨.bool r,?_,iF _⟩,trivial⟩
  rw[hvx,hvy,jq,run_eqGuard_agg w _ _ _ _ _ _ hb.1.2]
  simp only[Result.andThen_ok]
  rw[run_eql_struct,hrun r hr]
  rfl
 ·rename_i r hr
  simp only[ak,dh] at h
  obtain⟨_,rfl⟩:=h
  refine⟨fH (by simp only[execOp,ho];rfl) ⟨.bool (!r),?_,iF _⟩,trivial⟩
  rw[hvx,hvy,jq,run_eqGuard_agg w _ _ _ _ _ _ hb.1.2]
  simp only[Result.andThen_ok]
  rw[run_neq_struct,hrun r hr]
  rfl
end
end
section
set_option linter.unusedSimpArgs false
set_option linter.unusedVariables false
def aN {α:Type} (ids:Option (List Nat)) (xss:List α):Nat:=match ids with
 | some l=>l.length
 | none=>xss.length
def nameAt (ids:Option (List Nat)) (i:Nat):Nat:=match ids with
 | some l=>l.getD i 0
 | none=>i
def rowAt {α:Type} (xss:List (List α)) (i:Nat):List α:=xss.getD i []
theorem zB {α:Type} (ids:Option (List Nat)) (xss:List α):(bJ ids xss).length=aN ids xss:=by cases ids<;>simp[bJ,aN]
theorem a7D {α:Type} (ids:Option (List Nat)) (xss:List α) (i:Nat) (h:i<aN ids xss):(bJ ids xss)[i]?=some (nameAt ids i):=by
 cases ids with
 | none=>simp only[bJ,nameAt];rw[Bf (show i<xss.length from h)]
 | some l=>simp only[bJ,nameAt,iy];rw[jc h];rfl
def b2a (r v:Nat) (ty:Ty) (xs:List ty.den) (n:Int):PK:=some ([0<=n,n<xs.length],.cell r v n.toNat)
def b1d (r v:Nat) (m:Nat) (n:Int):PK:=some ([0<=n,n<m],.cell r v n.toNat)
def b1A (r v id:Nat) (ty:Ty) (xss:List (List ty.den)) (n:Int):PK:=some ([0<=n,n<(rowAt xss id).length],.mpos r v id n.toNat)
def PS (ty:Ty) (xs:List ty.den) (i:Nat):PK:=some ([i<xs.length],.val ty (xs.getD i ty.zero))
def a5G (r v:Nat) (ids:Option (List Nat)) (m i:Nat):PK:=some ([i<m],.mrow r v (nameAt ids i))
def b1z (ks:List K0) (n:Int):PK:=some ([0<=n,n<(ks.length:Int)],.pcl ks n.toNat)
def JG (P:Program) (ρ:Nat->Res) (k:Operand->K):Op->PK
 | .indexAddr s x i=>match k x,k i with
  | .own r v,.val (.int _) n=>match ρ r with
   | .row _ t xs v'=>if gv v==gv v'&&lZ P s none t then b2a r v t xs n else none
   | .fro t xs v'=>if gv v==gv v'&&lZ P s none t then GR t xs (List.length (α:=t.den) xs) n else none
   | .mat _ _ t ids xss v'=>if gv v==gv v'&&lZ P s none (.list t) then b1d r v (aN ids xss) n else none
   | _=>none
  | .mrow r v id,.val (.int _) n=>match ρ r with
   | .mat _ _ t ids xss v'=>if v==v'&&lZ P s none t then b1A r v id t xss n else none
   | _=>none
  | .pls ks,.val (.int _) n=>if lZ P s none (.list .unit) then b1z ks n else none
  | _,_=>none
 | .nilCheck x=>match k x with
  | .ptr r o=>some ([],.ptr r o)
  | _=>none
 | .load t x=>match k x with
  | .pcl ks i=>match ks[i]? with
   | some k0=>if rM P t==some false then some ([],k0K k0) else none
   | none=>none
  | .cell r v i=>match ρ r with
   | .row _ ty xs v'=>if gv v==gv v'&&fitsT P t ty then PS ty xs i else none
   | .mat _ _ ty ids xss v'=>if gv v==gv v'&&fitsT P t (.list ty) then a5G r v' ids (aN ids xss) i else none
   | _=>none
  | .mpos r v id j=>match ρ r with
   | .mat _ _ ty ids xss v'=>if v==v'&&fitsT P t ty then PS ty (rowAt xss id) j else none
   | _=>none
  | .lQ r=>match ρ r with
   | .kF kk=>if rM P t==some false then some ([],kk) else none
   | _=>none
  | _=>none
 | .call { callee:=.builtin .len,args:=xs,argTypes:=ts }=>match xs.toList,ts.toList with
  | [x],[t]=>if qY P t then (match k x with
   | .own r v=>match ρ r with
    | .row _ ty xs v'=>if gv v==gv v' then LP ty xs else none
    | .fro ty xs v'=>if gv v==gv v' then LP ty xs else none
    | .mat _ _ ty ids xss v'=>if gv v==gv v' then some ([],.val (.int .i64) (aN ids xss:Int)) else none
    | _=>none
   | .mrow r v id=>match ρ r with
    | .mat _ _ ty ids xss v'=>if v==v' then LP ty (rowAt xss id) else none
    | _=>none
   | .pls ks=>some ([],.val (.int .i64) (ks.length:Int))
   | _=>none) else none
  | _,_=>none
 | _=>none
section
variable {P:Program} {E:Env} {ρ:Nat->Res} {W w:World}
theorem qB {e:TypeId} {n m:Nat} {v:Value} {cs:List Value} (h:w.ownsRow 0 e n v m cs):∃ p c,v=.slice p m c:=by
 rcases h.2 with⟨rfl,rfl⟩|⟨g,cap,cur,rfl,_⟩
 ·exact⟨_,_,rfl⟩
 ·exact⟨_,_,rfl⟩
theorem TU {e:TypeId} {n m:Nat} {v:Value} {cs:List Value} (h:w.ownsRow 0 e n v m cs) {g:Nat} (hg:bI v=some g):w.rangeAt g 0 cs:=by
 rcases h.2 with⟨rfl,_⟩|⟨g',cap,cur,rfl,_,e3,_,_,_,e7⟩
 ·cases hg
 ·cases hg
  intro j u hu
  rw[tu,yu w _ j cur _ _ e3]
  rw[<-e7] at hu
  have hlt:j<m*n:=by
   have:=(ql.1 hu).1
   rw[ni] at this;omega
  rw[List.getElem?_take,jm hlt] at hu
  simpa using hu
theorem LG {s:TypeId} {t:Ty} {m:Nat} {e:TypeId} {v:Value} {cs:List Value} {n:Int} {kd:IntKind} (hb:lZ P s none t=true) (h:w.ownsRow 0 e t.n v m cs) (h0:0<=n) (h1:n<m) :
  ∃ g,bI v=some g/\(Instr.indexAt s v (.int kd n)).run P w=.ok (.pointer (some ⟨g,n.toNat*t.n,none⟩)) w:=by
 obtain⟨e',k4,k5⟩:=nH hb
 obtain⟨⟨i2,hi,hsz⟩,_⟩:=fF k5
 rcases h.2 with⟨rfl,hm⟩|⟨g,cap,cur,rfl,_⟩
 ·omega
 ·refine⟨g,rfl,?_⟩
  simp[Instr.indexAt,asIntOf,jq,qo k4 w,h0,h1,run_sizeOf hi,hsz,Bc]
theorem a2u {t:TypeId} {ty:Ty} {e:TypeId} {v:Value} {cs:List Value} {xs:List ty.den} {i g:Nat} {F:Nat->Prop} (hf:fitsT P t ty=true) (h:w.ownsRow 0 e ty.n v xs.length cs) (hc:chunks (rep F w ty) cs xs) (hi:i<xs.length) (hg:bI v=some g) :
  ∃ u,(loadVar t ⟨g,i*ty.n,none⟩).run P w=.ok u w/\iY F w ty u (xs.getD i ty.zero):=by
 have hr:=xQ (TU h hg) (i*ty.n) ty.n
 rw[tu] at hr
 have hrep:=GH hc hi
 exact⟨_,jJ hf hr hrep,_,rfl,hrep⟩
theorem a7A {t:TypeId} {ty:Ty} (h:fitsT P t (.list ty)=true):rM P t=some false:=(fF h).2
theorem IV {t:TypeId} {b o:Nat} {u:Value} (ha:rM P t=some false) (hc:w.cell? ⟨b,o,none⟩=some u):(loadVar t ⟨b,o,none⟩).run P w=.ok u w:=by
 simp[loadVar,jq,EY ha,hc]
theorem b4d {o:Oper} {ev:Operand->Value} {x:Operand} {t:TypeId} {p:Option Addr} {m c:Nat} (ho:o.op=.call { callee:=.builtin .len,args:=#[x],argTypes:=#[t] }) (ht:qY P t=true) (hx:ev x=.slice p m c):(execOp ev o).run P w=.ok (.value (.int .i64 (m:Int))) w:=by
 unfold qY at ht
 split at ht<;>first|(cases ht;done)|skip
 rename_i e hu
 simp[execOp,ho,resolve,invoke,builtin,jq,hx,Builtin.len_,qo hu w,goInt]
theorem mG {r id ver:Nat} {e e2:TypeId} {t:Ty} {ids:Option (List Nat)} {xss:List (List t.den)} (hM:Mem E ρ W w) (hr:ρ r=.mat e e2 t ids xss ver) (hid:id<xss.length) :
  ∃ cs,w.ownsRow 0 e2 t.n (E.inn r id) (rowAt xss id).length cs/\chunks (rep (fz w E) w t) cs (rowAt xss id)/\CAv cO w (E.inn r id):=by
 have h1:=hM.res r
 rw[hr] at h1
 exact h1.2.2.2.2.2 id _ (by unfold rowAt;rw[iy,jc hid];rfl)
theorem a7p {s:TypeId} {b m:Nat} {kd:IntKind} {n:Int} (hb:lZ P s none (.list .unit)=true) (h0:0<=n) (h1:n<m):(Instr.indexAt s (.slice (some ⟨b,0,none⟩) m m) (.int kd n)).run P w=.ok (.pointer (some ⟨b,n.toNat,none⟩)) w:=by
 obtain⟨e',k4,k5⟩:=nH hb
 obtain⟨⟨i2,hi,hsz⟩,_⟩:=fF k5
 have hn:(Ty.list .unit).n=1:=rfl
 rw[hn] at hsz
 simp[Instr.indexAt,asIntOf,jq,qo k4 w,h0,h1,run_sizeOf hi,hsz,Bc]
theorem b5d {k:Operand->K} {ev:Operand->Value} {o:Oper} {vc:List Cd} {kk:K} (h:JG P ρ k o.op=some (vc,kk)) (hv:dJ vc) (hM:Mem E ρ W w) (hw:∀ x,(k x).wf ρ) (hk:∀ x,(k x).holds E ρ w (ev x)):yT P E ρ w o ev kk/\kk.wf ρ:=by
 cases ho:o.op<;>rw[ho] at h<;>try (simp[JG] at h;done)
 case indexAddr s x i =>
  simp only[JG] at h
  have hkx:=hk x
  have hwx:=hw x
  have hki:=hk i
  split at h<;>try(cases h;done)
  ·rename_i r v kd n hx hi
   rw[hx] at hkx hwx
   rw[hi] at hki
   have hin:=jS hki
   have h1:=hM.res r
   split at h<;>try(cases h;done)
   ·rename_i e t xs v' hr
    split at h<;>try(cases h;done)
    rename_i hb
    simp only[au,jf] at hb
    simp only[b2a,ak,dh] at h
    obtain⟨rfl,rfl⟩:=h
    rw[hr] at h1
    obtain⟨k1,k2,cs,k3,k4,k5⟩:=h1
    obtain⟨g,g1,g2⟩:=LG (kd:=kd) hb.2 k3 hv.1 hv.2.1
    have hxv:ev x=E.sl r:=hkx (by rw[hr];exact hb.1.symm)
    exact⟨fH (by simp only[execOp,ho];rfl) ⟨_,by rw[hxv,hin];exact g2,fun _=>⟨g,g1,by rw[hr];rfl⟩⟩,hwx⟩
   ·rename_i t xs v' hr
    split at h<;>try(cases h;done)
    rename_i hb
    simp only[au,jf] at hb
    rw[hr] at h1
    have hxv:ev x=E.sl r:=hkx (by rw[hr];exact hb.1.symm)
    have hwf:kk.wf ρ:=by
     simp only[GR,ak,dh] at h
     rw[<-h.2];trivial
    refine⟨fH (by simp only[execOp,ho];rfl) ?_,hwf⟩
    rw[hxv,hin]
    exact zM hb.2 h hv h1.2
   ·rename_i e e2 t ids xss v' hr
    split at h<;>try(cases h;done)
    rename_i hb
    simp only[au,jf] at hb
    simp only[b1d,ak,dh] at h
    obtain⟨rfl,rfl⟩:=h
    rw[hr] at h1
    obtain⟨k1,k2,⟨cs,k3,k4,k5⟩,_⟩:=h1
    rw[zB] at k3
    obtain⟨g,g1,g2⟩:=LG (t:=.list t) (kd:=kd) hb.2 k3 hv.1 hv.2.1
    have hxv:ev x=E.sl r:=hkx (by rw[hr];exact hb.1.symm)
    exact⟨fH (by simp only[execOp,ho];rfl) ⟨_,by rw[hxv,hin];exact g2,fun _=>⟨g,g1,by rw[hr];rfl⟩⟩,hwx⟩
  ·rename_i r v id kd n hx hi
   rw[hx] at hkx hwx
   rw[hi] at hki
   have hin:=jS hki
   split at h<;>try(cases h;done)
   rename_i e e2 t ids xss v' hr
   split at h<;>try(cases h;done)
   rename_i hb
   simp only[au,jf] at hb
   simp only[b1A,ak,dh] at h
   obtain⟨rfl,rfl⟩:=h
   have IE:Res.mF v (ρ r):=by rw[hr];exact hb.1.symm
   have hid:=hwx.2 IE
   rw[hr] at hid
   obtain⟨cs,k3,k4,k5⟩:=mG hM hr hid
   obtain⟨g,g1,g2⟩:=LG (kd:=kd) hb.2 k3 hv.1 hv.2.1
   have hxv:ev x=E.inn r id:=hkx IE
   exact⟨fH (by simp only[execOp,ho];rfl) ⟨_,by rw[hxv,hin];exact g2,fun _=>⟨g,g1,by rw[hr];rfl⟩⟩,hwx⟩
  ·rename_i ks kd n hx hi
   rw[hx] at hkx hwx
   rw[hi] at hki
   have hin:=jS hki
   split at h<;>try(cases h;done)
   rename_i hb
   simp only[b1z,ak,dh] at h
   obtain⟨rfl,rfl⟩:=h
   obtain⟨b,vs,h1,h2,h3,h4⟩:=hkx
   exact⟨fH (by simp only[execOp,ho];rfl) ⟨_,by rw[h1,hin];exact a7p hb hv.1 hv.2.1,b,vs,rfl,h2,h3,h4⟩,hwx⟩
 case nilCheck x =>
  simp only[JG] at h
  have hkx:=hk x
  have hwx:=hw x
  split at h<;>try(cases h;done)
  rename_i r o hx
  rw[hx] at hkx hwx
  simp only[ak,dh] at h
  obtain⟨_,rfl⟩:=h
  obtain⟨b,h1,h2⟩:=hkx
  exact⟨⟨ev x,by simp[execOp,ho,h2],b,h1,h2⟩,hwx⟩
 case load t x =>
  simp only[JG] at h
  have hkx:=hk x
  have hwx:=hw x
  have hload:∀ {b p:Nat} {u:Value} {kk:K},ev x=.pointer (some ⟨b,p,none⟩)->(loadVar t ⟨b,p,none⟩).run P w=.ok u w->kk.holds E ρ w u->yT P E ρ w o ev kk:=fun {b p u kk} h1 h2 h3=>by
   refine fH (s:=Instr.loadAt t (ev x)) (by simp only[execOp,ho]) ⟨u,?_,h3⟩
   rw[h1]
   simp only[Instr.loadAt,Instr.sureAddr,jq,Sem.run_pure,Result.andThen_ok]
   exact h2
  split at h<;>try(cases h;done)
  ·rename_i ks i hx
   rw[hx] at hkx hwx
   split at h<;>try(cases h;done)
   rename_i k0 hk0
   split at h<;>try(cases h;done)
   rename_i ha
   simp only[ak,dh] at h
   obtain⟨rfl,rfl⟩:=h
   obtain⟨b,vs,h1,h2,h3,h4⟩:=hkx
   obtain⟨u,hu,hk9⟩:=a3P h4 hk0
   have hc:=h3 i u hu
   rw[tu] at hc
   exact⟨hload h1 (IV (by simpa using ha) hc) (wJ.1 hk9),SI.1 (hwx k0 (Cc hk0))⟩
  ·rename_i r v i hx
   rw[hx] at hkx hwx
   have h1:=hM.res r
   split at h<;>try(cases h;done)
   ·rename_i e ty xs v' hr
    split at h<;>try(cases h;done)
    rename_i hb
    simp only[au,jf] at hb
    simp only[PS,ak,dh] at h
    obtain⟨rfl,rfl⟩:=h
    rw[hr] at h1
    obtain⟨k1,k2,cs,k3,k4,k5⟩:=h1
    obtain⟨b,hb1,hb2⟩:=hkx (by rw[hr];exact hb.1.symm)
    rw[hr] at hb2
    obtain⟨u,u1,u2⟩:=a2u hb.2 k3 k4 hv.1 hb1
    exact⟨hload hb2 u1 u2,trivial⟩
   ·rename_i e e2 ty ids xss v' hr
    split at h<;>try(cases h;done)
    rename_i hb
    simp only[au,jf] at hb
    simp only[a5G,ak,dh] at h
    obtain⟨rfl,rfl⟩:=h
    rw[hr] at h1
    obtain⟨k1,k2,⟨cs,k3,k4,k5⟩,k6,_⟩:=h1
    obtain⟨b,hb1,hb2⟩:=hkx (by rw[hr];exact hb.1.symm)
    rw[hr] at hb2
    have hn:=a7D ids xss i hv.1
    have hc:w.cell? ⟨b,i*1,none⟩=some (E.inn r (nameAt ids i)):=by
     have:=TU k3 hb1 i (E.inn r (nameAt ids i)) (by rw[k4,xk,hn];rfl)
     rw[Nat.mul_one]
     rwa [tu] at this
    refine⟨hload hb2 (IV (a7A hb.2) hc) (fun _=>rfl),(by show Res.dW v' (ρ r);rw[hr];exact ay _),fun _=>?_⟩
    rw[hr]
    exact k6 _ (Cc hn)
  ·rename_i r v id j hx
   rw[hx] at hkx hwx
   split at h<;>try(cases h;done)
   rename_i e e2 ty ids xss v' hr
   split at h<;>try(cases h;done)
   rename_i hb
   simp only[au,jf] at hb
   simp only[PS,ak,dh] at h
   obtain⟨rfl,rfl⟩:=h
   have IE:Res.mF v (ρ r):=by rw[hr];exact hb.1.symm
   have hid:=hwx.2 IE
   rw[hr] at hid
   obtain⟨cs,k3,k4,k5⟩:=mG hM hr hid
   obtain⟨b,hb1,hb2⟩:=hkx IE
   rw[hr] at hb2
   obtain⟨u,u1,u2⟩:=a2u hb.2 k3 k4 hv.1 hb1
   exact⟨hload hb2 u1 u2,trivial⟩
  ·rename_i r hx
   rw[hx] at hkx hwx
   split at h<;>try(cases h;done)
   rename_i k9 hr
   split at h<;>try(cases h;done)
   rename_i ha
   simp only[ak,dh] at h
   obtain⟨rfl,rfl⟩:=h
   obtain⟨q1,q2,b,u,e,q3,q4,q5,q6⟩:=hM.kbx r k9 hr
   obtain⟨b',hb1,hb2⟩:=hkx (by rw[hr];trivial)
   rw[hb1] at q3;cases q3
   have hc:w.cell? ⟨b,0,none⟩=some u:=by rw[yu w _ _ _ _ _ q4];rfl
   exact⟨hload hb2 (IV (by simpa using ha) hc) q6,q1⟩
 case call c =>
  obtain⟨cl,xs,ts⟩:=c
  cases cl<;>try (simp[JG] at h;done)
  rename_i bi
  cases bi<;>try (simp[JG] at h;done)
  simp only[JG] at h
  split at h<;>try(cases h;done)
  rename_i x t hxs hts
  have hxs:xs=#[x]:=by apply Dk;simpa using hxs
  have hts:ts=#[t]:=by apply Dk;simpa using hts
  subst hxs hts
  split at h<;>try(cases h;done)
  rename_i ht
  have hkx:=hk x
  have hwx:=hw x
  have fin:∀ {p m c},ev x=.slice p m c->kk=.val (.int .i64) (m:Int)->yT P E ρ w o ev kk/\kk.wf ρ:=fun {p m c} h1 h2=>by
   subst h2
   exact⟨⟨_,b4d ho ht h1,kG _ _⟩,trivial⟩
  split at h<;>try(cases h;done)
  ·rename_i r v hx
   rw[hx] at hkx
   have h1:=hM.res r
   split at h<;>try(cases h;done)
   ·rename_i e ty xs v' hr
    split at h<;>try(cases h;done)
    rename_i hb
    simp only[LP,ak,dh] at h
    rw[hr] at h1
    obtain⟨k1,k2,cs,k3,k4,k5⟩:=h1
    have hxv:ev x=E.sl r:=hkx (by rw[hr];exact(by simpa using hb:gv v=gv v').symm)
    obtain⟨p,c,e1⟩:=qB k3
    exact fin (hxv.trans e1) h.2.symm
   ·rename_i ty xs v' hr
    split at h<;>try(cases h;done)
    rename_i hb
    simp only[LP,ak,dh] at h
    rw[hr] at h1
    have hxv:ev x=E.sl r:=hkx (by rw[hr];exact(by simpa using hb:gv v=gv v').symm)
    obtain⟨p,c,e1,_⟩:=wP (ρ:=ρ) h1.2
    exact fin (hxv.trans e1) h.2.symm
   ·rename_i e e2 ty ids xss v' hr
    split at h<;>try(cases h;done)
    rename_i hb
    simp only[ak,dh] at h
    rw[hr] at h1
    obtain⟨k1,k2,⟨cs,k3,k4,k5⟩,_⟩:=h1
    rw[zB] at k3
    have hxv:ev x=E.sl r:=hkx (by rw[hr];exact(by simpa using hb:gv v=gv v').symm)
    obtain⟨p,c,e1⟩:=qB k3
    exact fin (hxv.trans e1) h.2.symm
  ·rename_i r v id hx
   rw[hx] at hkx hwx
   split at h<;>try(cases h;done)
   rename_i e e2 ty ids xss v' hr
   split at h<;>try(cases h;done)
   rename_i hb
   simp only[LP,ak,dh] at h
   have IE:Res.mF v (ρ r):=by rw[hr];exact(by simpa using hb:v=v').symm
   have hid:=hwx.2 IE
   rw[hr] at hid
   obtain⟨cs,k3,k4,k5⟩:=mG hM hr hid
   obtain⟨p,c,e1⟩:=qB k3
   exact fin ((hkx IE).trans e1) h.2.symm
  ·rename_i ks hx
   rw[hx] at hkx
   simp only[ak,dh] at h
   obtain⟨b,vs,h1,_⟩:=hkx
   exact fin h1 h.2.symm
end
end
section
set_option linter.unusedSimpArgs false
set_option linter.unusedVariables false
def sQ (k:Operand->K) (d:Int):Option Operand->Option Int
 | none=>some d
 | some x=>match k x with
  | .val (.int _) n=>some n
  | _=>none
def b3w (ty:Ty) (ys:List ty.den) (lo hi:Int) (m:Nat):PK:=some ([0<=lo,lo<=hi,hi<=m],.val (.list ty) ((ys.take hi.toNat).drop lo.toNat))
def c3h (a b:Int):Int:=if b > a then b else a
def c3i (a b:Int):Int:=if b<a then b else a
def foldI (k:Operand->K) (f:Int->Int->Int):Int->List Operand->Option Int
 | a,[]=>some a
 | a,x::l=>match k x with
  | .val (.int _) b=>foldI k f (f a b) l
  | _=>none
def GL (P:Program) (k:Operand->K):Op->PK
 | .slice s x lo hi none=>match k x with
  | .val (.list t) ys=>if lZ P s none t then (match sQ k 0 lo,sQ k (List.length (α:=t.den) ys:Int) hi with
   | some l,some h=>b3w t ys l h (List.length (α:=t.den) ys)
   | _,_=>none) else none
  | .val (.ref (.arr m t)) ys=>if lZ P s (some m) t&&decide (m<=9223372036854775807) then (match sQ k 0 lo,sQ k (m:Int) hi with
   | some l,some h=>b3w t ys l h m
   | _,_=>none) else none
  | _=>none
 | .slice s x lo (some hi) (some mx)=>match k x with
  | .val (.list t) ys=>if lZ P s none t then (match sQ k 0 lo,sQ k 0 (some hi),sQ k 0 (some mx) with
   | some l,some h,some m=>some ([0<=l,l<=h,h<=m,m<=(List.length (α:=t.den) ys:Int)],.val (.list t) ((List.take (α:=t.den) h.toNat ys).drop l.toNat))
   | _,_,_=>none) else none
  | _=>none
 | .call { callee:=.builtin .max,args:=xs,argTypes:=_ }=>match xs.toList with
  | x::l=>match k x with
   | .val (.int ka) a=>(foldI k c3h a l).map fun b=>([],.val (.int ka) b)
   | _=>none
  | _=>none
 | .call { callee:=.builtin .min,args:=xs,argTypes:=_ }=>match xs.toList with
  | x::l=>match k x with
   | .val (.int ka) a=>(foldI k c3i a l).map fun b=>([],.val (.int ka) b)
   | _=>none
  | _=>none
 | _=>none
section
variable {P:Program} {E:Env} {ρ:Nat->Res} {w:World}
theorem a6R {k:Operand->K} {ev:Operand->Value} {d:Int} {n:Int} {x:Option Operand} (h:sQ k d x=some n) (hk:∀ x,(k x).holds E ρ w (ev x)):(x=none/\n=d)\/∃ y kd,x=some y/\ev y=.int kd n:=by
 cases x with
 | none=>exact .inl ⟨rfl,by unfold sQ at h;simpa using h.symm⟩
 | some y =>
  unfold sQ at h
  dsimp only at h
  split at h<;>try(cases h;done)
  rename_i kd m hy
  cases h
  have:=hk y
  rw[hy] at this
  exact .inr ⟨y,_,rfl,jS this⟩
theorem KT {k:Operand->K} {ev:Operand->Value} {f:Int->Int->Int} {g:Value->Value->Sem Value} (hg:∀ (ka kb:IntKind) (a b:Int),g (.int ka a) (.int kb b)=pure (.int ka (f a b))) (hk:∀ x,(k x).holds E ρ w (ev x)) {ka:IntKind}:∀ {l:List Operand} {a b:Int},foldI k f a l=some b->((l.map ev).foldlM g (.int ka a)).run P w=.ok (.int ka b) w
 | [],a,b,h=>by cases h;rfl
 | x::l,a,b,h=>by
  simp only[foldI] at h
  split at h<;>try(cases h;done)
  rename_i kb c hx
  have h1:=hk x
  rw[hx] at h1
  have h1:=jS h1
  have h3:=KT hg hk (ka:=ka) h
  rw[zf,List.foldlM_cons,h1]
  erw[hg]
  exact h3
theorem QJ {lo hi:Option Value} {l h:Int} {len cap m:Nat} {b:Bool} (hl:(lo=none/\l=0)\/∃ kd,lo=some (.int kd l)) (hh:(hi=none/\h=len)\/∃ kd,hi=some (.int kd h)) (h0:0<=l) (h1:l<=h) (h2:h<=cap) :
  (Instr.sliceBounds b len cap lo hi none).run P w=.ok (l.toNat,h.toNat,cap) w:=by
 unfold Instr.sliceBounds Instr.sliceBound
 obtain⟨l',rfl⟩:=uy h0
 obtain⟨h',rfl⟩:=uy (Int.le_trans h0 h1)
 have h1:l'<=h':=by omega
 have h2:h'<=cap:=by omega
 have h3:(0:Int)<=(l':Int):=h0
 have h4:(0:Int)<=(h':Int):=by omega
 rcases hl with⟨rfl,hl⟩|⟨kd,rfl⟩<;>rcases hh with⟨rfl,hh⟩|⟨kd',rfl⟩<;>simp_all [jq,asIntOf]<;>omega
theorem a1x {lo:Option Value} {l h m:Int} {kh km:IntKind} {len cap:Nat} {b:Bool} (hl:(lo=none/\l=0)\/∃ kd,lo=some (.int kd l)) (h0:0<=l) (h1:l<=h) (h2:h<=m) (h3:m<=cap) :
  (Instr.sliceBounds b len cap lo (some (.int kh h)) (some (.int km m))).run P w=.ok (l.toNat,h.toNat,m.toNat) w:=by
 unfold Instr.sliceBounds Instr.sliceBound
 obtain⟨l',rfl⟩:=uy h0
 obtain⟨h',rfl⟩:=uy (Int.le_trans h0 h1)
 obtain⟨m',rfl⟩:=uy (Int.le_trans (Int.le_trans h0 h1) h2)
 have h1:l'<=h':=by omega
 have h2:h'<=m':=by omega
 have h3:m'<=cap:=by omega
 have h4:(0:Int)<=(l':Int):=h0
 have h5:(0:Int)<=(h':Int):=by omega
 have h6:(0:Int)<=(m':Int):=by omega
 rcases hl with⟨rfl,hl⟩|⟨kd,rfl⟩<;>simp_all [jq,asIntOf]<;>omega
theorem NR {α:Type} {R:List Value->α->Prop} {n:Nat} (h:∀ c y,R c y->c.length=n):∀ (xs:List α) (cs:List Value) (i:Nat),chunks R cs xs->chunks R (cs.take (i*n)) (xs.take i)
 | [],cs,i,hc=>by rw[show cs=[] from hc];simp;rfl
 | x::xs,_,0,_=>by simp;rfl
 | x::xs,_,i+1,⟨c1,c2,h1,h2,h3⟩=>by
  refine⟨c1,c2.take (i*n),?_,h2,NR h xs c2 i h3⟩
  rw[h1,Aa,Ep,<-h _ _ h2,List.take_length_add_append]
theorem NH {α:Type} {R:List Value->α->Prop} {n:Nat} (h:∀ c y,R c y->c.length=n):∀ (xs:List α) (cs:List Value) (i:Nat),chunks R cs xs->chunks R (cs.drop (i*n)) (xs.drop i)
 | [],cs,i,hc=>by rw[show cs=[] from hc];simp;rfl
 | x::xs,cs,0,hc=>by simpa using hc
 | x::xs,_,i+1,⟨c1,c2,h1,h2,h3⟩=>by
  have:=NH h xs c2 i h3
  rw[h1,Aa,Ep,<-Dz,<-h _ _ h2,Az,h _ _ h2]
  exact this
theorem GN {ty:Ty} {ys:List ty.den} {b o:Nat} {ds:List Value} {l h c:Nat} (hl:l<=h) (hh:h<=ys.length) (hc:h<=c) (hc2:c<=9223372036854775807) (hn:ys≠[]->fz w E b/\w.rangeAt b o ds/\chunks (rep (fz w E) w ty) ds ys) (p:Option Addr) (hp:h≠l->c≠l->p=some ⟨b,o+l*ty.n,none⟩) :
  (K.val (.list ty) ((ys.take h).drop l)).holds E ρ w (.slice p (h-l) (c-l)):=by
 have hlen:((ys.take h).drop l).length=h-l:=by rw[zl,ni,zh hh]
 refine⟨[.slice p (h-l) (c-l)],rfl,p,c-l,by rw[show List.length (α:=ty.den) ((ys.take h).drop l)=h-l from hlen],by rw[show List.length (α:=ty.den) ((ys.take h).drop l)=h-l from hlen];omega,by omega,?_⟩
 by_cases e:h=l
 ·left
  show (ys.take h).drop l=[]
  exact qp (by rw[hlen];omega)
 ·right
  have hne:ys≠[]:=fun e2=>by rw[e2] at hh;simp at hh;omega
  obtain⟨h1,h2,h3⟩:=hn hne
  refine⟨b,o+l*ty.n,(ds.take (h*ty.n)).drop (l*ty.n),hp e (by omega),h1,fun j v hv=>?_,NH (fun c y=>dI ty c y) _ _ l (NR (fun c y=>dI ty c y) _ _ h h3)⟩
  rw[List.getElem?_drop] at hv
  have hlt:l*ty.n+j<h*ty.n:=by
   have:=(ql.1 hv).1
   rw[ni] at this;omega
  rw[List.getElem?_take,jm hlt] at hv
  have:=h2 _ _ hv
  rwa [<-Nat.add_assoc] at this
theorem a1C {k:Operand->K} {ev:Operand->Value} {o:Oper} {vc:List Cd} {kk:K} (h:GL P k o.op=some (vc,kk)) (hv:dJ vc) (hk:∀ x,(k x).holds E ρ w (ev x)):yT P E ρ w o ev kk/\kk.wf ρ:=by
 cases ho:o.op<;>rw[ho] at h<;>try (simp[GL] at h;done)
 case slice s x lo hi mx =>
  have hkx:=hk x
  have hb:∀ {d:Int} {n:Int} {y:Option Operand},sQ k d y=some n->(y.map ev=none/\n=d)\/∃ kd,y.map ev=some (.int kd n):=fun {d n y} hh=>by
   rcases a6R hh hk with⟨rfl,rfl⟩|⟨z,kd,rfl,h2⟩
   ·exact .inl ⟨rfl,rfl⟩
   ·exact .inr ⟨kd,by simp[h2]⟩
  cases mx with
  | some mx =>
   cases hi<;>simp only[GL] at h<;>try(cases h;done)
   rename_i hi
   split at h<;>try(cases h;done)
   rename_i t ys hx
   rw[hx] at hkx
   split at h<;>try(cases h;done)
   rename_i he
   split at h<;>try(cases h;done)
   rename_i l hh m hlo hhi hmx
   simp only[ak,dh] at h
   obtain⟨rfl,rfl⟩:=h
   obtain⟨v0,v1,v2,v3,_⟩:=hv
   obtain⟨p,c,hxv,k1,k2,k3⟩:=wP (ρ:=ρ) hkx
   obtain⟨e,hu,hf⟩:=nH he
   obtain⟨⟨i2,hi2,hsz⟩,_⟩:=fF hf
   obtain⟨kh,eh⟩:=(hb hhi).resolve_left (fun h=>by cases h.1)
   obtain⟨km,em⟩:=(hb hmx).resolve_left (fun h=>by cases h.1)
   have hr:=a1x (P:=P) (w:=w) (b:=true) (len:=List.length (α:=t.den) ys) (kh:=kh) (km:=km) (hb hlo) v0 v1 v2 (show m<=(c:Int) by omega)
   rw[<-eh,<-em] at hr
   refine⟨fH (s:=Instr.sliceAt s (ev x) (lo.map ev) ((some hi).map ev) ((some mx).map ev)) (by simp only[execOp,ho]) ⟨.slice (if m.toNat=l.toNat then p else p.map (·.add (l.toNat*i2.size))) (hh.toNat-l.toNat) (m.toNat-l.toNat),?_,?_⟩,trivial⟩
   ·rw[hxv]
    simp only[Instr.sliceAt,jq,qo hu w,Result.andThen_ok,Instr.slice,hr,run_sizeOf hi2,Sem.run_pure]
   ·rcases k3 with rfl|⟨b,oo,ds,rfl,k3,k4,k5⟩
    ·have h0:hh.toNat=0:=by simp at v3;omega
     have h1:l.toNat=0:=by omega
     rw[h0,h1]
     exact GN (b:=0) (o:=0) (ds:=[]) (ay _) (by simp) (uq _) (by omega) (fun e=>absurd rfl e) _ (fun hne=>absurd rfl hne)
    ·refine GN (b:=b) (o:=oo) (ds:=ds) (by omega) (by omega) (by omega) (by omega) (fun _=>⟨k3,k4,k5⟩) _ (fun _ hne=>?_)
     rw[ji hne,hsz]
     simp[Bc]
  | none =>
  simp only[GL] at h
  split at h<;>try(cases h;done)
  ·rename_i t ys hx
   rw[hx] at hkx
   split at h<;>try(cases h;done)
   rename_i he
   split at h<;>try(cases h;done)
   rename_i l hh hlo hhi
   simp only[b3w,ak,dh] at h
   obtain⟨rfl,rfl⟩:=h
   obtain⟨v0,v1,v2,_⟩:=hv
   obtain⟨p,c,hxv,k1,k2,k3⟩:=wP (ρ:=ρ) hkx
   obtain⟨e,hu,hf⟩:=nH he
   obtain⟨⟨i2,hi2,hsz⟩,_⟩:=fF hf
   have hr:=QJ (P:=P) (w:=w) (b:=true) (m:=0) (hb hlo) (hb hhi) v0 v1 (show hh<=(c:Int) by omega)
   refine⟨fH (s:=Instr.sliceAt s (ev x) (lo.map ev) (hi.map ev) none) (by simp only[execOp,ho];rfl) ⟨.slice (if c=l.toNat then p else p.map (·.add (l.toNat*i2.size))) (hh.toNat-l.toNat) (c-l.toNat),?_,?_⟩,trivial⟩
   ·rw[hxv]
    simp only[Instr.sliceAt,jq,qo hu w,Result.andThen_ok,Instr.slice,hr,run_sizeOf hi2,Sem.run_pure]
   ·rcases k3 with rfl|⟨b,oo,ds,rfl,k3,k4,k5⟩
    ·have h0:hh.toNat=0:=by simp at v2;omega
     have h1:l.toNat=0:=by omega
     rw[h0,h1]
     exact GN (b:=0) (o:=0) (ds:=[]) (ay _) (by simp) (by omega) k2 (fun e=>absurd rfl e) _ (fun hne=>absurd rfl hne)
    ·refine GN (b:=b) (o:=oo) (ds:=ds) (by omega) (by omega) (by omega) k2 (fun _=>⟨k3,k4,k5⟩) _ (fun _ hne=>?_)
     rw[ji hne,hsz]
     simp[Bc]
  ·rename_i m t ys hx
   rw[hx] at hkx
   split at h<;>try(cases h;done)
   rename_i he
   simp only[au,aj] at he
   obtain⟨he,hm9⟩:=he
   split at h<;>try(cases h;done)
   rename_i l hh hlo hhi
   simp only[b3w,ak,dh] at h
   obtain⟨rfl,rfl⟩:=h
   obtain⟨v0,v1,v2,_⟩:=hv
   obtain⟨b,oo,ds,hxv,k1,k2,kl,k3⟩:=DI hkx
   have kl:List.length (α:=t.den) ys=m:=kl
   obtain⟨e,hu,hf⟩:=KO he
   obtain⟨⟨i2,hi2,hsz⟩,_⟩:=fF hf
   have hr:=QJ (P:=P) (w:=w) (b:=false) (m:=0) (len:=m) (cap:=m) (hb hlo) (hb hhi) v0 v1 v2
   refine⟨fH (s:=Instr.sliceAt s (ev x) (lo.map ev) (hi.map ev) none) (by simp only[execOp,ho];rfl) ⟨.slice (some (if m=l.toNat then ⟨b,oo,none⟩ else (⟨b,oo,none⟩:Addr).add (l.toNat*i2.size))) (hh.toNat-l.toNat) (m-l.toNat),?_,?_⟩,trivial⟩
   ·rw[hxv]
    simp only[Instr.sliceAt,jq,qo hu w,Result.andThen_ok,Instr.sureAddr,hr,run_sizeOf hi2,Sem.run_pure]
   ·refine GN (b:=b) (o:=oo) (ds:=ds) (by omega) (by omega) (by omega) hm9 (fun _=>⟨k1,k2,k3⟩) _ (fun _ hne=>?_)
    rw[ji hne,hsz,Bc]
 case call c =>
  obtain⟨cl,xs,ts⟩:=c
  cases cl<;>try (simp[GL] at h;done)
  rename_i bi
  cases bi<;>try (simp[GL] at h;done)
  all_goals
   simp only[GL] at h
   split at h<;>try(cases h;done)
   rename_i x l hxs
   have hxs:xs=(x::l).toArray:=by apply Dk;simpa using hxs
   subst hxs
   split at h<;>try(cases h;done)
   rename_i ka a hx
   obtain⟨b,hf,h9⟩:=jw.1 h
   cases h9
   have h1:=hk x
   rw[hx] at h1
   have h1:=jS h1
   refine⟨⟨_,?_,kG _ _⟩,trivial⟩
   first
    |have r:=KT (P:=P) (w:=w) (ka:=ka) (g:=Builtin.max2) (f:=c3h) (fun k j a b=>rfl) hk hf
     simp[execOp,ho,resolve,invoke,builtin,jq,h1,Builtin.max_]
     erw[r];rfl
    |have r:=KT (P:=P) (w:=w) (ka:=ka) (g:=Builtin.min2) (f:=c3i) (fun k j a b=>rfl) hk hf
     simp[execOp,ho,resolve,invoke,builtin,jq,h1,Builtin.min_]
     erw[r];rfl
end
end
end Go.Proofs.YtbkocjmmbkifjaaGreat
