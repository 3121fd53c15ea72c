/-
  Lemmas for the theorem veight28_holds, part 10 of 32.
-/
import Derived.Test.YtbkocjmmbkifjaaGreatQg09
namespace Go.Proofs.YtbkocjmmbkifjaaGreat
open Go Go.RowKit
theorem Dl:type_of% @List.ext_getElem?:=@List.ext_getElem?
theorem uf:type_of% @List.getElem?_map:=@List.getElem?_map
theorem qp:type_of% @List.mem_cons:=@List.mem_cons
theorem Ap:type_of% @List.getElem?_range:=@List.getElem?_range
section
set_option linter.unusedSimpArgs false
set_option linter.unusedVariables false
def RJ:Ty->List Part
 | .pair a b=>⟨a,a.zero⟩::RJ b
 | .arr n t=>List.replicate n ⟨t,t.zero⟩
 | _=>[]
def UM:List Part->Part
 | []=>⟨.unit,()⟩
 | p::ps=>⟨.pair p.t (UM ps).t,(p.x,(UM ps).x)⟩
def b9b:List Part->Option Part
 | []=>none
 | p::ps=>(kP p.t (p::ps)).map fun xs=>⟨.arr (ps.length+1) p.t,xs⟩
def a1g (k:Operand->K):List Part->List (Nat × Operand)->Option (List Part)
 | ps,[]=>some ps
 | ps,(i,x)::l=>match ps[i]?,k x with
  | some q,.val t y=>if t.n=q.t.n&&t.agg==q.t.agg then a1g k (ps.set i ⟨t,y⟩) l else none
  | some ⟨.list t,_⟩,.nil=>a1g k (ps.set i ⟨.list t,[]⟩) l
  | _,_=>none
def UR (P:Program):List Field->List Part->Nat->Bool
 | [],[],_=>true
 | f::fs,p::ps,o=>f.offset==o&&(P.info? f.type).map (·.size)==some p.t.n&&UR P fs ps (o+p.t.n)
 | _,_,_=>false
def zJ (ps:List Part):Bool:=ps.all fun p=>p.t.zc.isSome
def a4w:Ty->Bool
 | .pair _ b=>a4w b
 | .unit=>true
 | _=>false
def a7v (P:Program) (t:TypeId) (ty:Ty):Bool:=ty.agg&&match P.underlying t with
 | some (.struct fs)=>fs.toList.all fun f=>(P.info? f.type).isSome
 | some (.array _ e)=>(P.info? e).isSome
 | _=>false
def a6F (n:Nat):Ty->Option Ty
 | .arr m u=>if n=m then some u else none
 | _=>none
def b3D (P:Program) (e:TypeId) (u:Ty):Bool:=(P.info? e).map (·.size)==some u.n&&u.zc.isSome
def rowB (P:Program) (fs:Array Field) (ty:Ty):Bool:=UR P fs.toList (RJ ty) 0&&zJ (RJ ty)&&a4w ty
def a4i (p:Part):List Cd × K:=([],.val p.t p.x)
def a2l (P:Program) (k:Operand->K) (ty:Ty) (l:List (Nat × Operand)):TypeDesc->PK
 | .struct fs=>if rowB P fs ty then (a1g k (RJ ty) l).map fun ps=>a4i (UM ps) else none
 | .array n e=>match a6F n ty with
  | some u=>if b3D P e u then ((a1g k (List.replicate n ⟨u,u.zero⟩) l).bind b9b).map a4i else none
  | none=>none
 | _=>none
def LH (P:Program) (T:Told) (k:Operand->K):Op->PK
 | .build t parts=>match (T.ty t).map (bTy parts.isEmpty),P.underlying t with
  | some ty,some d=>if WA P t ty then (if parts.isEmpty then (if a7v P t ty then some ([],.val ty ty.zero) else none) else a2l P k ty parts.toList d) else none
  | _,_=>none
 | _=>none
section
variable {P:Program} {E:Env} {ρ:Nat->Res} {w:World}
def sW (F:Nat->Prop) (w:World) (css:List (List Value)) (ps:List Part):Prop:=jZ (fun c (p:Part)=>rep F w p.t c p.x) css ps
theorem OI:∀ (css:List (List Value)) (i:Nat) (c d:List Value),css[i]?=some c->(css.set i d).flatten=css.flatten.take ((css.take i).map List.length).sum++d++css.flatten.drop (((css.take i).map List.length).sum+c.length)
 | [],i,c,d,h=>by simp at h
 | a::css,0,c,d,h=>by
  simp only[List.getElem?_cons_zero,aj] at h
  subst h
  simp
 | a::css,i+1,c,d,h=>by
  have ih:=OI css i c d (by simpa using h)
  rw[List.set_cons_succ,List.flatten_cons,ih,List.flatten_cons]
  simp only[List.take_succ_cons,zf,List.sum_cons]
  generalize ((css.take i).map List.length).sum=s
  have e1:(a++css.flatten).take (a.length+s)=a++css.flatten.take s:=by rw[List.take_append,jv (by omega),Nat.add_sub_cancel_left]
  have e2:(a++css.flatten).drop (a.length+s+c.length)=css.flatten.drop (s+c.length):=by rw[Nat.add_assoc,List.drop_append,List.drop_of_length_le (by omega),Nat.add_sub_cancel_left,List.nil_append]
  rw[e1,e2]
  simp
theorem a2Z {α β:Type} {R:α->β->Prop}:∀ {l:List α} {m:List β} {i:Nat} {b:β},jZ R l m->m[i]?=some b->∃ a,l[i]?=some a/\R a b
 | _,_,i,b,.nil,h=>by simp at h
 | _,_,0,b,.cons (a:=a) h1 _,h=>by
  simp only[List.getElem?_cons_zero,aj] at h
  subst h
  exact⟨a,rfl,h1⟩
 | _,_,i+1,b,.cons _ h2,h=>by
  obtain⟨a,k1,k2⟩:=a2Z h2 (by simpa using h)
  exact⟨a,by simpa using k1,k2⟩
theorem ZH {α β:Type} {R:α->β->Prop}:∀ {l:List α} {m:List β} {i:Nat} {a:α} {b:β},jZ R l m->R a b->jZ R (l.set i a) (m.set i b)
 | _,_,_,_,_,.nil,_=>.nil
 | _,_,0,_,_,.cons _ h2,h=>.cons h h2
 | _,_,i+1,_,_,.cons h1 h2,h=>.cons h1 (ZH h2 h)
def kJ (ps:List Part) (i:Nat):Nat:=((ps.take i).map (·.t.n)).sum
theorem a4d {F:Nat->Prop}:∀ {css:List (List Value)} {ps:List Part} (i:Nat),sW F w css ps->((css.take i).map List.length).sum=kJ ps i
 | _,_,i,.nil=>by simp[kJ]
 | _,_,0,.cons _ _=>by simp[kJ]
 | _,_,i+1,.cons h1 h2=>by
  have:=a4d i h2
  simp only[kJ,List.take_succ_cons,zf,List.sum_cons] at *
  rw[this,dF _ _ _ h1]
theorem a0g {F:Nat->Prop}:∀ {css:List (List Value)} {ps:List Part},sW F w css ps->css.flatten.length=(ps.map (·.t.n)).sum
 | _,_,.nil=>rfl
 | _,_,.cons h1 h2=>by
  simp only[List.flatten_cons,jg,zf,List.sum_cons]
  rw[a0g h2,dF _ _ _ h1]
theorem a9n:∀ {ps:List Part} {i:Nat} {q:Part},ps[i]?=some q->kJ ps i+q.t.n<=(ps.map (·.t.n)).sum
 | p::ps,0,q,h=>by
  simp only[List.getElem?_cons_zero,aj] at h
  subst h
  simp[kJ]
 | p::ps,i+1,q,h=>by
  have:=a9n (ps:=ps) (i:=i) (q:=q) (by simpa using h)
  simp only[kJ,List.take_succ_cons,zf,List.sum_cons] at *
  omega
 | [],i,q,h=>by simp at h
theorem a4c {ps:List Part} {i:Nat} {q p:Part} (h:ps[i]?=some q) (hn:p.t.n=q.t.n) (j:Nat):kJ (ps.set i p) j=kJ ps j:=by
 unfold kJ
 rw[List.map_take,List.map_take,List.map_set]
 congr 2
 apply Dl
 intro x
 rw[List.getElem?_set]
 split
 ·rename_i e
  subst e
  rw[uf,h]
  have:i<ps.length:=(oz.1 h).1
  simp[this,hn]
 ·rfl
theorem CS {k:Operand->K} {ev:Operand->Value} (hk:∀ x,(k x).holds E ρ w (ev x)) (place:Nat->Option (Nat × Nat)):∀ {l:List (Nat × Operand)} {ps qs:List Part} {css:List (List Value)} {a:Array Value},a1g k ps l=some qs->sW (fz w E) w css ps->a.toList=css.flatten->(∀ i q,ps[i]?=some q->place i=some (kJ ps i,q.t.n)) ->
  ∃ a' NW,Instr.fill place a (l.map fun q=>(q.1,ev q.2))=some a'/\a'.toList=NW.flatten/\sW (fz w E) w NW qs
 | [],ps,qs,css,a,h,hp,ha,hpl=>by
  simp only[a1g,aj] at h
  subst h
  exact⟨a,css,rfl,ha,hp⟩
 | (i,x)::l,ps,qs,css,a,h,hp,ha,hpl=>by
  have step:∀ (q p:Part) (v:Value),ps[i]?=some q->p.t.n=q.t.n->ev x=v->iV (fz w E) w p.t v p.x->a1g k (ps.set i p) l=some qs ->
    ∃ a' NW,Instr.fill place a (((i,x)::l).map fun q=>(q.1,ev q.2))=some a'/\a'.toList=NW.flatten/\sW (fz w E) w NW qs:=by
   intro q p v hq hn hv hr hset
   obtain⟨cs,hvc,hrep⟩:=hr
   obtain⟨c,hc,hcr⟩:=a2Z hp hq
   have hlc:=dF _ _ _ hcr
   have hls:=dF _ _ _ hrep
   have hcells:v.cells=cs.toArray:=by rw[hvc];exact mV p.t cs p.x hrep
   have hoff:=a4d i hp
   have hle:=a9n hq
   have hal:a.size=(ps.map (·.t.n)).sum:=by rw[<-Array.length_toList,ha,a0g hp]
   have hfold:=a0i cs (kJ ps i) 0 a (by rw[hal,hls,hn];omega)
   rw[Nat.add_zero] at hfold
   have UD:=OI css i c cs hc
   rw[hoff] at UD
   have key:(v.cells.zipIdx.foldl (fun cs (p:Value × Nat)=>cs.setIfInBounds (kJ ps i+p.2) p.1) a)=((cs.zipIdx 0).foldl (fun cs (p:Value × Nat)=>cs.setIfInBounds (kJ ps i+p.2) p.1) a):=by
    rw[hcells,<-Array.foldl_toList];congr 1
    simp
   obtain⟨a',NW,k1,k2,k3⟩:=CS hk place (a:=((cs.zipIdx 0).foldl (fun cs (p:Value × Nat)=>cs.setIfInBounds (kJ ps i+p.2) p.1) a)) hset (ZH hp hrep) (by rw[hfold,UD,ha];rw[show cs.length=c.length by rw[hls,hn,hlc]]) (fun j q' hq'=>by
    by_cases e:i=j
    ·subst e
     have hil:i<ps.length:=(oz.1 hq).1
     rw[List.getElem?_set_self hil] at hq'
     cases hq'
     rw[a4c hq hn,hn];exact hpl i q hq
    ·rw[List.getElem?_set_ne e] at hq'
     rw[a4c hq hn];exact hpl j q' hq')
   refine⟨a',NW,?_,k2,k3⟩
   rw[zf,Instr.fill]
   simp only[hpl i q hq,hv]
   have hz:v.cells.size=q.t.n:=by rw[hcells];simp[hls,hn]
   have hc9:¬ (kJ ps i+v.cells.size > a.size):=by rw[hz,hal];omega
   simp only[hz,ne_eq,not_true_eq_false,false_or]
   rw[hz] at hc9
   rw[jd (by simp only[qo hc9];decide)]
   rw[show (v.cells.zipIdx.foldl (fun cs x=>match x with|(c,j)=>cs.setIfInBounds (kJ ps i+j) c) a)=_ from key]
   exact k1
  simp only[a1g] at h
  split at h<;>try(cases h;done)
  ·rename_i q t y hq hkx
   split at h<;>try(cases h;done)
   rename_i hb
   simp only[au,ak,jf] at hb
   have hh:=hk x
   rw[hkx] at hh
   exact step q ⟨t,y⟩ (ev x) hq hb.1 rfl hh h
  ·rename_i t y hq hkx
   have hh:=hk x
   rw[hkx] at hh
   exact step _ ⟨.list t,[]⟩ (ev x) hq rfl rfl ⟨[.slice none 0 0],hh,none,0,rfl,by simp,by omega,.inl rfl⟩ h
theorem UN {F:Nat->Prop}:∀ {css:List (List Value)} {ps:List Part},sW F w css ps->rep F w (UM ps).t css.flatten (UM ps).x
 | _,_,.nil=>rfl
 | _,_,.cons h1 h2=>⟨_,_,by rw[List.flatten_cons],h1,UN h2⟩
theorem a3c {F:Nat->Prop} {t:Ty}:∀ {css:List (List Value)} {ps:List Part} {xs:List t.den},sW F w css ps->kP t ps=some xs->chunks (rep F w t) css.flatten xs/\xs.length=ps.length
 | _,_,xs,.nil,h=>by
  simp only[kP,aj] at h
  subst h
  exact⟨rfl,rfl⟩
 | _,_,xs,.cons (a:=c) (b:=p) h1 h2,h=>by
  simp only[kP] at h
  split at h<;>try(cases h;done)
  rename_i x xs' k1 k2
  simp only[aj] at h
  subst h
  obtain⟨j1,j2⟩:=a3c h2 k2
  obtain⟨pt,px⟩:=p
  obtain⟨e,k1⟩:=dI k1
  simp only at e
  subst e
  have k1:px=x:=k1
  subst k1
  exact⟨⟨c,_,by rw[List.flatten_cons],h1,j1⟩,by simp[j2]⟩
theorem a2W {F:Nat->Prop}:∀ (ps:List Part),zJ ps=true->(∀ p ∈ ps,p.x=p.t.zero)->∃ css,sW F w css ps/\css=ps.map (fun p=>p.t.zc.getD [])
 | [],_,_=>⟨[],.nil,rfl⟩
 | p::ps,h,hz=>by
  simp only[zJ,List.all_cons,au] at h
  obtain⟨css,h1,h2⟩:=a2W ps (by unfold zJ;exact h.2) (fun p hp=>hz p (jw _ hp))
  obtain⟨c,hc⟩:=Bj.1 h.1
  refine⟨c::css,.cons ?_ h1,by rw[h2,zf,hc];rfl⟩
  rw[hz p (lg ..)]
  exact zI p.t c hc
theorem b0J:∀ (t:Ty),∀ p ∈ RJ t,p.x=p.t.zero:=by
 intro t
 induction t with
 | pair a b _ ih =>
  intro p hp
  rcases qp.1 hp with rfl|hp
  ·rfl
  ·exact ih p hp
 | arr n t _=>intro p hp;rw[(Dw.1 hp).2]
 | _=>intro p hp;cases hp
theorem b0I:∀ (t:Ty) (c:List Value),t.zc=some c->a4w t=true->((RJ t).map fun p=>p.t.zc.getD []).flatten=c:=by
 intro t
 induction t with
 | pair a b _ ih =>
  intro c h hr
  simp only[Ty.zc] at h
  split at h<;>try(cases h;done)
  rename_i c1 c2 h1 h2
  simp only[aj] at h
  subst h
  simp only[RJ,zf,List.flatten_cons,h1,Option.getD_some]
  rw[ih c2 h2 hr]
 | unit=>intro c h hr;simp only[Ty.zc,aj] at h;rw[<-h];rfl
 | _=>intro c h hr;simp[a4w] at hr
theorem QM:∀ {fs:List Field} {ps:List Part} {o:Nat},UR P fs ps o=true->fs.length=ps.length/\(∃ places,fs.mapM (fun f=>(P.info? f.type).map fun i=>(f.offset,i.size))=some places/\∀ i q,ps[i]?=some q->places[i]?=some (o+kJ ps i,q.t.n))
 | [],[],o,_=>⟨rfl,[],rfl,fun i q h=>by simp at h⟩
 | f::fs,p::ps,o,h=>by
  simp only[UR,au,jf] at h
  obtain⟨⟨h1,h2⟩,h3⟩:=h
  obtain⟨k1,places,k2,k3⟩:=QM h3
  cases hi:P.info? f.type with
  | none=>rw[hi] at h2;simp at h2
  | some j =>
   rw[hi] at h2
   have h2:j.size=p.t.n:=by simpa using h2
   refine⟨by simp[k1],(o,p.t.n)::places,?_,fun i q hq=>?_⟩
   ·simp only[List.mapM_cons,hi,k2,h1,h2,Option.map_some,Option.bind_eq_bind,Option.bind_some,Option.pure_def]
   ·cases i with
    | zero =>
     simp only[List.getElem?_cons_zero,aj] at hq
     subst hq
     simp[kJ]
    | succ i =>
     have:=k3 i q (by simpa using hq)
     simp only[List.getElem?_cons_succ,this]
     simp only[kJ,List.take_succ_cons,zf,List.sum_cons]
     rw[Nat.add_assoc]
 | [],_::_,_,h=>by simp[UR] at h
 | _::_,[],_,h=>by simp[UR] at h
theorem a5Q {t:Ty} {n:Nat} {x:t.den}:∀ (i:Nat),i<=n->kJ (List.replicate n ⟨t,x⟩) i=i*t.n:=by
 intro i hi
 unfold kJ
 rw[List.take_replicate,List.map_replicate,List.sum_replicate_nat]
 rw[zh hi]
theorem a1F {T:Told} {k:Operand->K} {ev:Operand->Value} {o:Oper} {vc:List Cd} {kk:K} (h:LH P T k o.op=some (vc,kk)) (hk:∀ x,(k x).holds E ρ w (ev x)):xG P E ρ w o ev kk/\kk.wf ρ:=by
 cases ho:o.op<;>rw[ho] at h<;>try (simp[LH] at h;done)
 rename_i t parts
 have hmap:(parts.map fun q=>(q.1,ev q.2)).toList=parts.toList.map fun q=>(q.1,ev q.2):=by simp
 have fin:∀ (cells:Array Value),P.built t (parts.toList.map fun q=>(q.1,ev q.2))=some cells->∃ v,(execOp ev o).run P w=.ok (.value v) w/\v=.agg cells:=fun cells hb=>by
  have:=run_build w t (parts.map fun q=>(q.1,ev q.2)) cells (by rw[hmap];exact hb)
  exact⟨.agg cells,by simp only[execOp,ho];rw[jk];rw[show (Instr.build t (parts.map fun x=>match x with|(i,x)=>(i,ev x)))=Instr.build t (parts.map fun q=>(q.1,ev q.2)) from rfl,this];rfl,rfl⟩
 simp only[LH] at h
 split at h<;>try(cases h;done)
 rename_i ty d hty hu
 split at h<;>try(cases h;done)
 rename_i hz
 obtain⟨it,z,c,h1,h2,h3,h4,h5⟩:=wS hz
 split at h
 ·rename_i hp
  have hp:parts.toList=[]:=by simpa using hp
  split at h<;>try(cases h;done)
  rename_i hb
  simp only[a7v,hu,au] at hb
  simp only[aj,bf] at h
  obtain⟨_,rfl⟩:=h
  have b4K:P.built t []=some z.cells:=by
   unfold Program.built
   rw[h1,hu]
   cases d<;>first|(simp at hb;done)|skip
   ·rename_i n e
    simp only[h2]
    cases he:P.info? e with
    | none=>simp[he] at hb
    | some ie=>rfl
   ·rename_i fs
    simp only[h2]
    have hall:∀ f ∈ fs.toList,(P.info? f.type).isSome:=fun f hf=>Bv.1 hb.2 f hf
    have:∃ places,fs.toList.mapM (fun f=>(P.info? f.type).map fun i=>(f.offset,i.size))=some places:=by
     revert hall
     generalize fs.toList=fl
     induction fl with
     | nil=>intro _;exact⟨[],rfl⟩
     | cons f fl ih =>
      intro hall
      obtain⟨pl,hpl⟩:=ih (fun f hf=>hall f (jw _ hf))
      obtain⟨j,hj⟩:=Bj.1 (hall f (lg ..))
      exact⟨(f.offset,j.size)::pl,by simp only[List.mapM_cons,hj,hpl,Option.map_some,Option.bind_eq_bind,Option.bind_some,Option.pure_def]⟩
    obtain⟨places,hpl⟩:=this
    rw[hpl]
    rfl
  obtain⟨v,hr,rfl⟩:=fin z.cells (by rw[hp];exact b4K)
  refine⟨⟨_,hr,c,?_,zI ty c h3⟩,trivial⟩
  rw[<-h4,Ty.toV,hb.1,jl rfl]
 ·cases d<;>try(cases h;done)
  ·rename_i n e
   simp only[a2l] at h
   split at h<;>try(cases h;done)
   rename_i u hau
   split at h<;>try(cases h;done)
   rename_i hb
   rw[jq] at h
   obtain⟨p,hp1,hp2⟩:=h
   rw[Option.bind_eq_some_iff] at hp1
   obtain⟨ps,hset,harr⟩:=hp1
   simp only[a4i,bf] at hp2
   obtain⟨_,rfl⟩:=hp2
   have c2p:ty=.arr n u:=by
    cases ty<;>try (simp[a6F] at hau;done)
    simp only[a6F] at hau
    split at hau
    ·rename_i e9
     simp only[aj] at hau
     rw[e9,hau]
    ·cases hau
   subst c2p
   simp only[b3D,au,jf] at hb
   obtain⟨hsz,hzc⟩:=hb
   obtain⟨css,z1,z2⟩:=a2W (F:=fz w E) (w:=w) (RJ (.arr n u)) (by simp[zJ,RJ,hzc]) (b0J (.arr n u))
   have UD:z.cells.toList=css.flatten:=by
    rw[h4,z2]
    simp only[Ty.zc,jq] at h3
    obtain⟨d,h6,rfl⟩:=h3
    simp[RJ,h6]
   cases hie:P.info? e with
   | none=>rw[hie] at hsz;simp at hsz
   | some ie =>
   rw[hie] at hsz
   have hsz:ie.size=u.n:=by simpa using hsz
   obtain⟨a',NW,f1,f2,f3⟩:=CS hk (fun i=>some (i*ie.size,ie.size)) hset z1 UD (fun i q' hq'=>by
    have hil:i<(List.replicate n (⟨u,u.zero⟩:Part)).length:=(oz.1 hq').1
    have c2M:i<n:=by simpa using hil
    have hq2:q'=⟨u,u.zero⟩:=by
     have:=Cb hq'
     exact(Dw.1 this).2
    rw[hq2,hsz]
    show some (i*u.n,u.n)=some (kJ (List.replicate n ⟨u,u.zero⟩) i,u.n)
    rw[a5Q i (by omega)])
   obtain⟨v,hr,rfl⟩:=fin a' (by
    unfold Program.built
    rw[h1,hu]
    simp only[h2,hie]
    exact f1)
   cases ps with
   | nil=>simp[b9b] at harr
   | cons p0 ps0 =>
    have harr:(kP p0.t (p0::ps0)).map (fun xs=>(⟨.arr (ps0.length+1) p0.t,xs⟩:Part))=some p:=harr
    obtain⟨xs,hx,rfl⟩:=jq.1 harr
    obtain⟨j1,j2⟩:=a3c f3 hx
    refine⟨⟨_,hr,NW.flatten,?_,?_,j1⟩,trivial⟩
    ·rw[Ty.toV];show _=Value.agg _;rw[<-f2]
    ·rw[show List.length (α:=p0.t.den) xs=_ from j2];rfl
  ·rename_i fs
   simp only[a2l] at h
   split at h<;>try(cases h;done)
   rename_i hb
   simp only[rowB,au] at hb
   rw[jq] at h
   obtain⟨ps,hset,hp2⟩:=h
   simp only[a4i,bf] at hp2
   obtain⟨_,rfl⟩:=hp2
   obtain⟨css,z1,z2⟩:=a2W (F:=fz w E) (w:=w) (RJ ty) hb.1.2 (b0J ty)
   obtain⟨_,places,o1,o2⟩:=QM hb.1.1
   have UD:z.cells.toList=css.flatten:=by rw[h4,z2,b0I ty c h3 hb.2]
   obtain⟨a',NW,f1,f2,f3⟩:=CS hk (fun i=>places.toArray[i]?) hset z1 UD (fun i q' hq'=>by
    have:=o2 i q' hq'
    rw[tu] at this
    simpa using this)
   obtain⟨v,hr,rfl⟩:=fin a' (by
    unfold Program.built
    rw[h1,hu]
    simp only[h2,o1]
    exact f1)
   have hrep:=UN f3
   refine⟨⟨_,hr,NW.flatten,?_,hrep⟩,trivial⟩
   have:(UM ps).t.agg=true:=by cases ps<;>rfl
   rw[Ty.toV,this,jl rfl,<-f2]
end
end
section
set_option linter.unusedSimpArgs false
set_option linter.unusedVariables false
def eqI (a b:Int):Bool:=a==b
def c1Z (a b:Bool):Bool:=a==b
def ZY (P:Program) (t:TypeId):(ty:Ty)->ty.den->ty.den->Option Bool
 | .int _,x,y=>match P.underlying t with
  | some (.int _)=>some (eqI x y)
  | _=>none
 | .bool,x,y=>match P.underlying t with
  | some .bool=>some (c1Z x y)
  | _=>none
 | _,_,_=>none
def KE (P:Program):List Field->Nat->(t:Ty)->t.den->t.den->Option Bool
 | [],_,.unit,_,_=>some true
 | f::fs,o,.pair a b,x,y=>if f.offset==o&&f.name != "_" && fitsT P f.type a then (match ZY P f.type a x.1 y.1,KE P fs (o+a.n) b x.2 y.2 with
  | some r,some s=>some (r&&s)
  | _,_=>none) else none
 | _,_,_,_,_=>none
def eqK (P:Program) (op:BinOp) (t:TypeId) (ty:Ty) (x y:ty.den):PK :=
 if ty.agg&&!P.eqGuardType P.depth t&&!P.stoodInHeld t then (match P.underlying t with
  | some (.struct fs)=>match KE P fs.toList 0 ty x y,op with
   | some r,.eql=>some ([],.val .bool r)
   | some r,.neq=>some ([],.val .bool (!r))
   | _,_=>none
  | _=>none) else none
def b1x (P:Program) (k:Operand->K):Op->PK
 | .binOp op t x y _=>match k x,k y with
  | .val ty a,.val ty' b=>match fK ty' ty b with
   | some b=>eqK P op t ty a b
   | none=>none
  | _,_=>none
 | _=>none
section
variable {P:Program} {E:Env} {ρ:Nat->Res} {w:World}
theorem a7w {t:TypeId} {ty:Ty} {x y:ty.den} {r:Bool} {F:Nat->Prop} {d:Nat} (h:ZY P t ty x y=some r) {c c':List Value} (h1:rep F w ty c x) (h2:rep F w ty c' y):(Op.equalIn (d+1) t (ty.toV c) (ty.toV c')).run P w=.ok r w:=by
 cases ty<;>try (simp[ZY] at h;done)
 ·simp only[ZY] at h
  split at h<;>try(cases h;done)
  rename_i hu
  simp only[aj] at h
  subst h
  rw[show c=[.bool x] from h1,show c'=[.bool y] from h2]
  exact run_equalIn_bool w d t x y hu
 ·simp only[ZY] at h
  split at h<;>try(cases h;done)
  rename_i k _ _ hu
  simp only[aj] at h
  subst h
  rw[show c=[.int k x] from h1,show c'=[.int k y] from h2]
  exact run_equalIn_int w d t k _ x y hu
theorem a0a {F:Nat->Prop} {d:Nat}:∀ {fs:List Field} {o:Nat} {t:Ty} {x y:t.den} {r:Bool} {pre pre' c c':List Value},KE P fs o t x y=some r->pre.length=o->pre'.length=o->rep F w t c x->rep F w t c' y ->
  (Op.eqFields (d+1) (pre++c).toArray (pre'++c').toArray fs).run P w=.ok r w
 | [],o,t,x,y,r,pre,pre',c,c',h,hp,hp',h1,h2=>by
  cases t<;>try (simp[KE] at h;done)
  simp only[KE,aj] at h
  subst h
  rfl
 | f::fs,o,t,x,y,r,pre,pre',c,c',h,hp,hp',h1,h2=>by
  cases t<;>try (simp[KE] at h;done)
  rename_i a b
  simp only[KE] at h
  split at h<;>try(cases h;done)
  rename_i hb
  simp only[au,jf,ni,ne_eq] at hb
  obtain⟨⟨ho,hn⟩,hf⟩:=hb
  split at h<;>try(cases h;done)
  rename_i r1 s1 he hr
  simp only[aj] at h
  subst h
  obtain⟨c1,c2,rfl,k1,k2⟩:=h1
  obtain⟨d1,d2,rfl,j1,j2⟩:=h2
  have lc:=dF a _ _ k1
  have ld:=dF a _ _ j1
  have e1:(((pre++(c1++c2)).drop o).take a.n)=c1:=by rw[<-hp,Au,<-lc,Cc]
  have e2:(((pre'++(d1++d2)).drop o).take a.n)=d1:=by rw[<-hp',Au,<-ld,Cc]
  have p1:=mQ (w:=w) (P:=P) hf (cs:=pre++(c1++c2)) (o:=o) (F:=F) (x:=x.1) (by rw[e1];exact k1)
  have p2:=mQ (w:=w) (P:=P) hf (cs:=pre'++(d1++d2)) (o:=o) (F:=F) (x:=y.1) (by rw[e2];exact j1)
  rw[e1] at p1
  rw[e2] at p2
  simp only[Op.eqFields]
  rw[jl hn]
  rw[jk,ho,p1]
  simp only[Result.andThen_ok,jk]
  rw[p2]
  simp only[Result.andThen_ok,a7w (d:=d) he k1 j1]
  cases r1 with
  | false=>simp
  | true =>
   have ih:=a0a (F:=F) (d:=d) (pre:=pre++c1) (pre':=pre'++d1) hr (by rw[jg,hp,lc]) (by rw[jg,hp',ld]) k2 j2
   simp only[Bool.not_true,zy,if_false,Bool.true_and]
   rw[<-uz,<-uz]
   exact ih
theorem b1y {k:Operand->K} {ev:Operand->Value} {o:Oper} {vc:List Cd} {kk:K} (h:b1x P k o.op=some (vc,kk)) (hk:∀ x,(k x).holds E ρ w (ev x)):xG P E ρ w o ev kk/\kk.wf ρ:=by
 cases ho:o.op<;>rw[ho] at h<;>try (simp[b1x] at h;done)
 rename_i op t x y yt
 simp only[b1x] at h
 split at h<;>try(cases h;done)
 rename_i ty a ty' b hx hy
 split at h<;>try(cases h;done)
 rename_i b' hc
 obtain⟨rfl,rfl⟩:=dI hc
 have h1:=hk x
 have h2:=hk y
 rw[hx] at h1
 rw[hy] at h2
 obtain⟨c,hvx,k1⟩:=h1
 obtain⟨c',hvy,k2⟩:=h2
 unfold eqK at h
 split at h<;>try(cases h;done)
 rename_i hb
 simp only[au,gy] at hb
 split at h<;>try(cases h;done)
 rename_i fs hu
 have hfs:P.fieldsOf t=fs:=by simp[Program.fieldsOf,hu]
 have hvx:ev x=.agg c.toArray:=by rw[hvx,Ty.toV,hb.1.1,jl rfl]
 have hvy:ev y=.agg c'.toArray:=by rw[hvy,Ty.toV,hb.1.1,jl rfl]
 have hrun:∀ r,KE P fs.toList 0 ty' a b=some r->(Op.equalIn 10000 t (.agg c.toArray) (.agg c'.toArray)).run P w=.ok r w:=fun r hr=>by
  rw[run_equalIn_struct w 9999 t _ _ (by rw[hfs];exact hu) hb.2,hfs]
  exact a0a (d:=9998) (pre:=[]) (pre':=[]) hr rfl rfl k1 k2
 split at h<;>try(cases h;done)
 ·rename_i r hr
  simp only[aj,bf] at h
  obtain⟨_,rfl⟩:=h
  refine⟨fA (by simp only[execOp,ho];rfl) ⟨.bool r,?_,iC _⟩,trivial⟩
  rw[hvx,hvy,jk,run_eqGuard_agg w _ _ _ _ _ _ hb.1.2]
  simp only[Result.andThen_ok]
  rw[run_eql_struct,hrun r hr]
  rfl
 ·rename_i r hr
  simp only[aj,bf] at h
  obtain⟨_,rfl⟩:=h
  refine⟨fA (by simp only[execOp,ho];rfl) ⟨.bool (!r),?_,iC _⟩,trivial⟩
  rw[hvx,hvy,jk,run_eqGuard_agg w _ _ _ _ _ _ hb.1.2]
  simp only[Result.andThen_ok]
  rw[run_neq_struct,hrun r hr]
  rfl
end
end
section
set_option linter.unusedSimpArgs false
set_option linter.unusedVariables false
def aN {α:Type} (ids:Option (List Nat)) (xss:List α):Nat:=match ids with
 | some l=>l.length
 | none=>xss.length
def nameAt (ids:Option (List Nat)) (i:Nat):Nat:=match ids with
 | some l=>l.getD i 0
 | none=>i
def rowAt {α:Type} (xss:List (List α)) (i:Nat):List α:=xss.getD i []
theorem xQ {α:Type} (ids:Option (List Nat)) (xss:List α):(bJ ids xss).length=aN ids xss:=by cases ids<;>simp[bJ,aN]
theorem a5M {α:Type} (ids:Option (List Nat)) (xss:List α) (i:Nat) (h:i<aN ids xss):(bJ ids xss)[i]?=some (nameAt ids i):=by
 cases ids with
 | none=>simp only[bJ,nameAt];rw[Ap (show i<xss.length from h)]
 | some l=>simp only[bJ,nameAt,bn];rw[dw h];rfl
def a9U (r v:Nat) (ty:Ty) (xs:List ty.den) (n:Int):PK:=some ([0<=n,n<xs.length],.cell r v n.toNat)
def a8Y (r v:Nat) (m:Nat) (n:Int):PK:=some ([0<=n,n<m],.cell r v n.toNat)
def a9y (r v id:Nat) (ty:Ty) (xss:List (List ty.den)) (n:Int):PK:=some ([0<=n,n<(rowAt xss id).length],.mpos r v id n.toNat)
def MP (ty:Ty) (xs:List ty.den) (i:Nat):PK:=some ([i<xs.length],.val ty (xs.getD i ty.zero))
def a3R (r v:Nat) (ids:Option (List Nat)) (m i:Nat):PK:=some ([i<m],.mrow r v (nameAt ids i))
def a9x (ks:List K0) (n:Int):PK:=some ([0<=n,n<(ks.length:Int)],.pcl ks n.toNat)
def FT (P:Program) (ρ:Nat->Res) (k:Operand->K):Op->PK
 | .indexAddr s x i=>match k x,k i with
  | .own r v,.val (.int _) n=>match ρ r with
   | .row _ t xs v'=>if gv v==gv v'&&lM P s none t then a9U r v t xs n else none
   | .fro t xs v'=>if gv v==gv v'&&lM P s none t then EF t xs (List.length (α:=t.den) xs) n else none
   | .mat _ _ t ids xss v'=>if gv v==gv v'&&lM P s none (.list t) then a8Y r v (aN ids xss) n else none
   | _=>none
  | .mrow r v id,.val (.int _) n=>match ρ r with
   | .mat _ _ t ids xss v'=>if v==v'&&lM P s none t then a9y r v id t xss n else none
   | _=>none
  | .pls ks,.val (.int _) n=>if lM P s none (.list .unit) then a9x ks n else none
  | _,_=>none
 | .nilCheck x=>match k x with
  | .ptr r o=>some ([],.ptr r o)
  | _=>none
 | .load t x=>match k x with
  | .pcl ks i=>match ks[i]? with
   | some k0=>if qF P t==some false then some ([],k0K k0) else none
   | none=>none
  | .cell r v i=>match ρ r with
   | .row _ ty xs v'=>if gv v==gv v'&&fitsT P t ty then MP ty xs i else none
   | .mat _ _ ty ids xss v'=>if gv v==gv v'&&fitsT P t (.list ty) then a3R r v' ids (aN ids xss) i else none
   | _=>none
  | .mpos r v id j=>match ρ r with
   | .mat _ _ ty ids xss v'=>if v==v'&&fitsT P t ty then MP ty (rowAt xss id) j else none
   | _=>none
  | .kY r=>match ρ r with
   | .jW kk=>if qF P t==some false then some ([],kk) else none
   | _=>none
  | _=>none
 | .call { callee:=.builtin .len,args:=xs,argTypes:=ts }=>match xs.toList,ts.toList with
  | [x],[t]=>if pX P t then (match k x with
   | .own r v=>match ρ r with
    | .row _ ty xs v'=>if gv v==gv v' then JE ty xs else none
    | .fro ty xs v'=>if gv v==gv v' then JE ty xs else none
    | .mat _ _ ty ids xss v'=>if gv v==gv v' then some ([],.val (.int .i64) (aN ids xss:Int)) else none
    | _=>none
   | .mrow r v id=>match ρ r with
    | .mat _ _ ty ids xss v'=>if v==v' then JE ty (rowAt xss id) else none
    | _=>none
   | .pls ks=>some ([],.val (.int .i64) (ks.length:Int))
   | _=>none) else none
  | _,_=>none
 | _=>none
section
variable {P:Program} {E:Env} {ρ:Nat->Res} {W w:World}
theorem oQ {e:TypeId} {n m:Nat} {v:Value} {cs:List Value} (h:w.ownsRow 0 e n v m cs):∃ p c,v=.slice p m c:=by
 rcases h.2 with⟨rfl,rfl⟩|⟨g,cap,cur,rfl,_⟩
 ·exact⟨_,_,rfl⟩
 ·exact⟨_,_,rfl⟩
theorem QN {e:TypeId} {n m:Nat} {v:Value} {cs:List Value} (h:w.ownsRow 0 e n v m cs) {g:Nat} (hg:bC v=some g):w.rangeAt g 0 cs:=by
 rcases h.2 with⟨rfl,_⟩|⟨g',cap,cur,rfl,_,e3,_,_,_,e7⟩
 ·cases hg
 ·cases hg
  intro j u hu
  rw[tu,yu w _ j cur _ _ e3]
  rw[<-e7] at hu
  have hlt:j<m*n:=by
   have:=(oz.1 hu).1
   rw[mg] at this;omega
  rw[List.getElem?_take,jl hlt] at hu
  simpa using hu
theorem JA {s:TypeId} {t:Ty} {m:Nat} {e:TypeId} {v:Value} {cs:List Value} {n:Int} {kd:IntKind} (hb:lM P s none t=true) (h:w.ownsRow 0 e t.n v m cs) (h0:0<=n) (h1:n<m) :
  ∃ g,bC v=some g/\(Instr.indexAt s v (.int kd n)).run P w=.ok (.pointer (some ⟨g,n.toNat*t.n,none⟩)) w:=by
 obtain⟨e',k4,k5⟩:=mO hb
 obtain⟨⟨i2,hi,hsz⟩,_⟩:=eX k5
 rcases h.2 with⟨rfl,hm⟩|⟨g,cap,cur,rfl,_⟩
 ·omega
 ·refine⟨g,rfl,?_⟩
  simp[Instr.indexAt,asIntOf,jk,qg k4 w,h0,h1,run_sizeOf hi,hsz,Bd]
theorem a0K {t:TypeId} {ty:Ty} {e:TypeId} {v:Value} {cs:List Value} {xs:List ty.den} {i g:Nat} {F:Nat->Prop} (hf:fitsT P t ty=true) (h:w.ownsRow 0 e ty.n v xs.length cs) (hc:chunks (rep F w ty) cs xs) (hi:i<xs.length) (hg:bC v=some g) :
  ∃ u,(loadVar t ⟨g,i*ty.n,none⟩).run P w=.ok u w/\iV F w ty u (xs.getD i ty.zero):=by
 have hr:=wB (QN h hg) (i*ty.n) ty.n
 rw[tu] at hr
 have hrep:=DV hc hi
 exact⟨_,jE hf hr hrep,_,rfl,hrep⟩
theorem a5J {t:TypeId} {ty:Ty} (h:fitsT P t (.list ty)=true):qF P t=some false:=(eX h).2
theorem FB {t:TypeId} {b o:Nat} {u:Value} (ha:qF P t=some false) (hc:w.cell? ⟨b,o,none⟩=some u):(loadVar t ⟨b,o,none⟩).run P w=.ok u w:=by
 simp[loadVar,jk,CW ha,hc]
theorem b2c {o:Oper} {ev:Operand->Value} {x:Operand} {t:TypeId} {p:Option Addr} {m c:Nat} (ho:o.op=.call { callee:=.builtin .len,args:=#[x],argTypes:=#[t] }) (ht:pX P t=true) (hx:ev x=.slice p m c):(execOp ev o).run P w=.ok (.value (.int .i64 (m:Int))) w:=by
 unfold pX at ht
 split at ht<;>first|(cases ht;done)|skip
 rename_i e hu
 simp[execOp,ho,resolve,invoke,builtin,jk,hx,Builtin.len_,qg hu w,goInt]
theorem lT {r id ver:Nat} {e e2:TypeId} {t:Ty} {ids:Option (List Nat)} {xss:List (List t.den)} (hM:Mem E ρ W w) (hr:ρ r=.mat e e2 t ids xss ver) (hid:id<xss.length) :
  ∃ cs,w.ownsRow 0 e2 t.n (E.inn r id) (rowAt xss id).length cs/\chunks (rep (fz w E) w t) cs (rowAt xss id)/\CAv bT w (E.inn r id):=by
 have h1:=hM.res r
 rw[hr] at h1
 exact h1.2.2.2.2.2 id _ (by unfold rowAt;rw[bn,dw hid];rfl)
theorem a5z {s:TypeId} {b m:Nat} {kd:IntKind} {n:Int} (hb:lM P s none (.list .unit)=true) (h0:0<=n) (h1:n<m):(Instr.indexAt s (.slice (some ⟨b,0,none⟩) m m) (.int kd n)).run P w=.ok (.pointer (some ⟨b,n.toNat,none⟩)) w:=by
 obtain⟨e',k4,k5⟩:=mO hb
 obtain⟨⟨i2,hi,hsz⟩,_⟩:=eX k5
 have hn:(Ty.list .unit).n=1:=rfl
 rw[hn] at hsz
 simp[Instr.indexAt,asIntOf,jk,qg k4 w,h0,h1,run_sizeOf hi,hsz,Bd]
theorem b2G {k:Operand->K} {ev:Operand->Value} {o:Oper} {vc:List Cd} {kk:K} (h:FT P ρ k o.op=some (vc,kk)) (hv:dK vc) (hM:Mem E ρ W w) (hw:∀ x,(k x).wf ρ) (hk:∀ x,(k x).holds E ρ w (ev x)):xG P E ρ w o ev kk/\kk.wf ρ:=by
 cases ho:o.op<;>rw[ho] at h<;>try (simp[FT] at h;done)
 case indexAddr s x i =>
  simp only[FT] at h
  have hkx:=hk x
  have hwx:=hw x
  have hki:=hk i
  split at h<;>try(cases h;done)
  ·rename_i r v kd n hx hi
   rw[hx] at hkx hwx
   rw[hi] at hki
   have hin:=jO hki
   have h1:=hM.res r
   split at h<;>try(cases h;done)
   ·rename_i e t xs v' hr
    split at h<;>try(cases h;done)
    rename_i hb
    simp only[au,jf] at hb
    simp only[a9U,aj,bf] at h
    obtain⟨rfl,rfl⟩:=h
    rw[hr] at h1
    obtain⟨k1,k2,cs,k3,k4,k5⟩:=h1
    obtain⟨g,g1,g2⟩:=JA (kd:=kd) hb.2 k3 hv.1 hv.2.1
    have hxv:ev x=E.sl r:=hkx (by rw[hr];exact hb.1.symm)
    exact⟨fA (by simp only[execOp,ho];rfl) ⟨_,by rw[hxv,hin];exact g2,fun _=>⟨g,g1,by rw[hr];rfl⟩⟩,hwx⟩
   ·rename_i t xs v' hr
    split at h<;>try(cases h;done)
    rename_i hb
    simp only[au,jf] at hb
    rw[hr] at h1
    have hxv:ev x=E.sl r:=hkx (by rw[hr];exact hb.1.symm)
    have hwf:kk.wf ρ:=by
     simp only[EF,aj,bf] at h
     rw[<-h.2];trivial
    refine⟨fA (by simp only[execOp,ho];rfl) ?_,hwf⟩
    rw[hxv,hin]
    exact yD hb.2 h hv h1.2
   ·rename_i e e2 t ids xss v' hr
    split at h<;>try(cases h;done)
    rename_i hb
    simp only[au,jf] at hb
    simp only[a8Y,aj,bf] at h
    obtain⟨rfl,rfl⟩:=h
    rw[hr] at h1
    obtain⟨k1,k2,⟨cs,k3,k4,k5⟩,_⟩:=h1
    rw[xQ] at k3
    obtain⟨g,g1,g2⟩:=JA (t:=.list t) (kd:=kd) hb.2 k3 hv.1 hv.2.1
    have hxv:ev x=E.sl r:=hkx (by rw[hr];exact hb.1.symm)
    exact⟨fA (by simp only[execOp,ho];rfl) ⟨_,by rw[hxv,hin];exact g2,fun _=>⟨g,g1,by rw[hr];rfl⟩⟩,hwx⟩
  ·rename_i r v id kd n hx hi
   rw[hx] at hkx hwx
   rw[hi] at hki
   have hin:=jO hki
   split at h<;>try(cases h;done)
   rename_i e e2 t ids xss v' hr
   split at h<;>try(cases h;done)
   rename_i hb
   simp only[au,jf] at hb
   simp only[a9y,aj,bf] at h
   obtain⟨rfl,rfl⟩:=h
   have EO:Res.lS v (ρ r):=by rw[hr];exact hb.1.symm
   have hid:=hwx.2 EO
   rw[hr] at hid
   obtain⟨cs,k3,k4,k5⟩:=lT hM hr hid
   obtain⟨g,g1,g2⟩:=JA (kd:=kd) hb.2 k3 hv.1 hv.2.1
   have hxv:ev x=E.inn r id:=hkx EO
   exact⟨fA (by simp only[execOp,ho];rfl) ⟨_,by rw[hxv,hin];exact g2,fun _=>⟨g,g1,by rw[hr];rfl⟩⟩,hwx⟩
  ·rename_i ks kd n hx hi
   rw[hx] at hkx hwx
   rw[hi] at hki
   have hin:=jO hki
   split at h<;>try(cases h;done)
   rename_i hb
   simp only[a9x,aj,bf] at h
   obtain⟨rfl,rfl⟩:=h
   obtain⟨b,vs,h1,h2,h3,h4⟩:=hkx
   exact⟨fA (by simp only[execOp,ho];rfl) ⟨_,by rw[h1,hin];exact a5z hb hv.1 hv.2.1,b,vs,rfl,h2,h3,h4⟩,hwx⟩
 case nilCheck x =>
  simp only[FT] at h
  have hkx:=hk x
  have hwx:=hw x
  split at h<;>try(cases h;done)
  rename_i r o hx
  rw[hx] at hkx hwx
  simp only[aj,bf] at h
  obtain⟨_,rfl⟩:=h
  obtain⟨b,h1,h2⟩:=hkx
  exact⟨⟨ev x,by simp[execOp,ho,h2],b,h1,h2⟩,hwx⟩
 case load t x =>
  simp only[FT] at h
  have hkx:=hk x
  have hwx:=hw x
  have hload:∀ {b p:Nat} {u:Value} {kk:K},ev x=.pointer (some ⟨b,p,none⟩)->(loadVar t ⟨b,p,none⟩).run P w=.ok u w->kk.holds E ρ w u->xG P E ρ w o ev kk:=fun {b p u kk} h1 h2 h3=>by
   refine fA (s:=Instr.loadAt t (ev x)) (by simp only[execOp,ho]) ⟨u,?_,h3⟩
   rw[h1]
   simp only[Instr.loadAt,Instr.sureAddr,jk,Sem.run_pure,Result.andThen_ok]
   exact h2
  split at h<;>try(cases h;done)
  ·rename_i ks i hx
   rw[hx] at hkx hwx
   split at h<;>try(cases h;done)
   rename_i k0 hk0
   split at h<;>try(cases h;done)
   rename_i ha
   simp only[aj,bf] at h
   obtain⟨rfl,rfl⟩:=h
   obtain⟨b,vs,h1,h2,h3,h4⟩:=hkx
   obtain⟨u,hu,hk9⟩:=a2d h4 hk0
   have hc:=h3 i u hu
   rw[tu] at hc
   exact⟨hload h1 (FB (by simpa using ha) hc) (uX.1 hk9),PL.1 (hwx k0 (Cb hk0))⟩
  ·rename_i r v i hx
   rw[hx] at hkx hwx
   have h1:=hM.res r
   split at h<;>try(cases h;done)
   ·rename_i e ty xs v' hr
    split at h<;>try(cases h;done)
    rename_i hb
    simp only[au,jf] at hb
    simp only[MP,aj,bf] at h
    obtain⟨rfl,rfl⟩:=h
    rw[hr] at h1
    obtain⟨k1,k2,cs,k3,k4,k5⟩:=h1
    obtain⟨b,hb1,hb2⟩:=hkx (by rw[hr];exact hb.1.symm)
    rw[hr] at hb2
    obtain⟨u,u1,u2⟩:=a0K hb.2 k3 k4 hv.1 hb1
    exact⟨hload hb2 u1 u2,trivial⟩
   ·rename_i e e2 ty ids xss v' hr
    split at h<;>try(cases h;done)
    rename_i hb
    simp only[au,jf] at hb
    simp only[a3R,aj,bf] at h
    obtain⟨rfl,rfl⟩:=h
    rw[hr] at h1
    obtain⟨k1,k2,⟨cs,k3,k4,k5⟩,k6,_⟩:=h1
    obtain⟨b,hb1,hb2⟩:=hkx (by rw[hr];exact hb.1.symm)
    rw[hr] at hb2
    have hn:=a5M ids xss i hv.1
    have hc:w.cell? ⟨b,i*1,none⟩=some (E.inn r (nameAt ids i)):=by
     have:=QN k3 hb1 i (E.inn r (nameAt ids i)) (by rw[k4,uf,hn];rfl)
     rw[Nat.mul_one]
     rwa [tu] at this
    refine⟨hload hb2 (FB (a5J hb.2) hc) (fun _=>rfl),(by show Res.dQ v' (ρ r);rw[hr];exact ay _),fun _=>?_⟩
    rw[hr]
    exact k6 _ (Cb hn)
  ·rename_i r v id j hx
   rw[hx] at hkx hwx
   split at h<;>try(cases h;done)
   rename_i e e2 ty ids xss v' hr
   split at h<;>try(cases h;done)
   rename_i hb
   simp only[au,jf] at hb
   simp only[MP,aj,bf] at h
   obtain⟨rfl,rfl⟩:=h
   have EO:Res.lS v (ρ r):=by rw[hr];exact hb.1.symm
   have hid:=hwx.2 EO
   rw[hr] at hid
   obtain⟨cs,k3,k4,k5⟩:=lT hM hr hid
   obtain⟨b,hb1,hb2⟩:=hkx EO
   rw[hr] at hb2
   obtain⟨u,u1,u2⟩:=a0K hb.2 k3 k4 hv.1 hb1
   exact⟨hload hb2 u1 u2,trivial⟩
  ·rename_i r hx
   rw[hx] at hkx hwx
   split at h<;>try(cases h;done)
   rename_i k9 hr
   split at h<;>try(cases h;done)
   rename_i ha
   simp only[aj,bf] at h
   obtain⟨rfl,rfl⟩:=h
   obtain⟨q1,q2,b,u,e,q3,q4,q5,q6⟩:=hM.kbx r k9 hr
   obtain⟨b',hb1,hb2⟩:=hkx (by rw[hr];trivial)
   rw[hb1] at q3;cases q3
   have hc:w.cell? ⟨b,0,none⟩=some u:=by rw[yu w _ _ _ _ _ q4];rfl
   exact⟨hload hb2 (FB (by simpa using ha) hc) q6,q1⟩
 case call c =>
  obtain⟨cl,xs,ts⟩:=c
  cases cl<;>try (simp[FT] at h;done)
  rename_i bi
  cases bi<;>try (simp[FT] at h;done)
  simp only[FT] at h
  split at h<;>try(cases h;done)
  rename_i x t hxs hts
  have hxs:xs=#[x]:=by apply Dh;simpa using hxs
  have hts:ts=#[t]:=by apply Dh;simpa using hts
  subst hxs hts
  split at h<;>try(cases h;done)
  rename_i ht
  have hkx:=hk x
  have hwx:=hw x
  have fin:∀ {p m c},ev x=.slice p m c->kk=.val (.int .i64) (m:Int)->xG P E ρ w o ev kk/\kk.wf ρ:=fun {p m c} h1 h2=>by
   subst h2
   exact⟨⟨_,b2c ho ht h1,jX _ _⟩,trivial⟩
  split at h<;>try(cases h;done)
  ·rename_i r v hx
   rw[hx] at hkx
   have h1:=hM.res r
   split at h<;>try(cases h;done)
   ·rename_i e ty xs v' hr
    split at h<;>try(cases h;done)
    rename_i hb
    simp only[JE,aj,bf] at h
    rw[hr] at h1
    obtain⟨k1,k2,cs,k3,k4,k5⟩:=h1
    have hxv:ev x=E.sl r:=hkx (by rw[hr];exact(by simpa using hb:gv v=gv v').symm)
    obtain⟨p,c,e1⟩:=oQ k3
    exact fin (hxv.trans e1) h.2.symm
   ·rename_i ty xs v' hr
    split at h<;>try(cases h;done)
    rename_i hb
    simp only[JE,aj,bf] at h
    rw[hr] at h1
    have hxv:ev x=E.sl r:=hkx (by rw[hr];exact(by simpa using hb:gv v=gv v').symm)
    obtain⟨p,c,e1,_⟩:=vF (ρ:=ρ) h1.2
    exact fin (hxv.trans e1) h.2.symm
   ·rename_i e e2 ty ids xss v' hr
    split at h<;>try(cases h;done)
    rename_i hb
    simp only[aj,bf] at h
    rw[hr] at h1
    obtain⟨k1,k2,⟨cs,k3,k4,k5⟩,_⟩:=h1
    rw[xQ] at k3
    have hxv:ev x=E.sl r:=hkx (by rw[hr];exact(by simpa using hb:gv v=gv v').symm)
    obtain⟨p,c,e1⟩:=oQ k3
    exact fin (hxv.trans e1) h.2.symm
  ·rename_i r v id hx
   rw[hx] at hkx hwx
   split at h<;>try(cases h;done)
   rename_i e e2 ty ids xss v' hr
   split at h<;>try(cases h;done)
   rename_i hb
   simp only[JE,aj,bf] at h
   have EO:Res.lS v (ρ r):=by rw[hr];exact(by simpa using hb:v=v').symm
   have hid:=hwx.2 EO
   rw[hr] at hid
   obtain⟨cs,k3,k4,k5⟩:=lT hM hr hid
   obtain⟨p,c,e1⟩:=oQ k3
   exact fin ((hkx EO).trans e1) h.2.symm
  ·rename_i ks hx
   rw[hx] at hkx
   simp only[aj,bf] at h
   obtain⟨b,vs,h1,_⟩:=hkx
   exact fin h1 h.2.symm
end
end
section
set_option linter.unusedSimpArgs false
set_option linter.unusedVariables false
def rF (k:Operand->K) (d:Int):Option Operand->Option Int
 | none=>some d
 | some x=>match k x with
  | .val (.int _) n=>some n
  | _=>none
def b1o (ty:Ty) (ys:List ty.den) (lo hi:Int) (m:Nat):PK:=some ([0<=lo,lo<=hi,hi<=m],.val (.list ty) ((ys.take hi.toNat).drop lo.toNat))
def a8Z (a b:Int):Int:=if b > a then b else a
def c0C (a b:Int):Int:=if b<a then b else a
def foldI (k:Operand->K) (f:Int->Int->Int):Int->List Operand->Option Int
 | a,[]=>some a
 | a,x::l=>match k x with
  | .val (.int _) b=>foldI k f (f a b) l
  | _=>none
def DY (P:Program) (k:Operand->K):Op->PK
 | .slice s x lo hi none=>match k x with
  | .val (.list t) ys=>if lM P s none t then (match rF k 0 lo,rF k (List.length (α:=t.den) ys:Int) hi with
   | some l,some h=>b1o t ys l h (List.length (α:=t.den) ys)
   | _,_=>none) else none
  | .val (.ref (.arr m t)) ys=>if lM P s (some m) t&&decide (m<=9223372036854775807) then (match rF k 0 lo,rF k (m:Int) hi with
   | some l,some h=>b1o t ys l h m
   | _,_=>none) else none
  | _=>none
 | .slice s x lo (some hi) (some mx)=>match k x with
  | .val (.list t) ys=>if lM P s none t then (match rF k 0 lo,rF k 0 (some hi),rF k 0 (some mx) with
   | some l,some h,some m=>some ([0<=l,l<=h,h<=m,m<=(List.length (α:=t.den) ys:Int)],.val (.list t) ((List.take (α:=t.den) h.toNat ys).drop l.toNat))
   | _,_,_=>none) else none
  | _=>none
 | .call { callee:=.builtin .max,args:=xs,argTypes:=_ }=>match xs.toList with
  | x::l=>match k x with
   | .val (.int ka) a=>(foldI k a8Z a l).map fun b=>([],.val (.int ka) b)
   | _=>none
  | _=>none
 | .call { callee:=.builtin .min,args:=xs,argTypes:=_ }=>match xs.toList with
  | x::l=>match k x with
   | .val (.int ka) a=>(foldI k c0C a l).map fun b=>([],.val (.int ka) b)
   | _=>none
  | _=>none
 | _=>none
section
variable {P:Program} {E:Env} {ρ:Nat->Res} {w:World}
theorem a4Z {k:Operand->K} {ev:Operand->Value} {d:Int} {n:Int} {x:Option Operand} (h:rF k d x=some n) (hk:∀ x,(k x).holds E ρ w (ev x)):(x=none/\n=d)\/∃ y kd,x=some y/\ev y=.int kd n:=by
 cases x with
 | none=>exact .inl ⟨rfl,by unfold rF at h;simpa using h.symm⟩
 | some y =>
  unfold rF at h
  dsimp only at h
  split at h<;>try(cases h;done)
  rename_i kd m hy
  cases h
  have:=hk y
  rw[hy] at this
  exact .inr ⟨y,_,rfl,jO this⟩
theorem IU {k:Operand->K} {ev:Operand->Value} {f:Int->Int->Int} {g:Value->Value->Sem Value} (hg:∀ (ka kb:IntKind) (a b:Int),g (.int ka a) (.int kb b)=pure (.int ka (f a b))) (hk:∀ x,(k x).holds E ρ w (ev x)) {ka:IntKind}:∀ {l:List Operand} {a b:Int},foldI k f a l=some b->((l.map ev).foldlM g (.int ka a)).run P w=.ok (.int ka b) w
 | [],a,b,h=>by cases h;rfl
 | x::l,a,b,h=>by
  simp only[foldI] at h
  split at h<;>try(cases h;done)
  rename_i kb c hx
  have h1:=hk x
  rw[hx] at h1
  have h1:=jO h1
  have h3:=IU hg hk (ka:=ka) h
  rw[zf,List.foldlM_cons,h1]
  erw[hg]
  exact h3
theorem NS {lo hi:Option Value} {l h:Int} {len cap m:Nat} {b:Bool} (hl:(lo=none/\l=0)\/∃ kd,lo=some (.int kd l)) (hh:(hi=none/\h=len)\/∃ kd,hi=some (.int kd h)) (h0:0<=l) (h1:l<=h) (h2:h<=cap) :
  (Instr.sliceBounds b len cap lo hi none).run P w=.ok (l.toNat,h.toNat,cap) w:=by
 unfold Instr.sliceBounds Instr.sliceBound
 obtain⟨l',rfl⟩:=uq h0
 obtain⟨h',rfl⟩:=uq (Int.le_trans h0 h1)
 have h1:l'<=h':=by omega
 have h2:h'<=cap:=by omega
 have h3:(0:Int)<=(l':Int):=h0
 have h4:(0:Int)<=(h':Int):=by omega
 rcases hl with⟨rfl,hl⟩|⟨kd,rfl⟩<;>rcases hh with⟨rfl,hh⟩|⟨kd',rfl⟩<;>simp_all [jk,asIntOf]<;>omega
theorem ZL {lo:Option Value} {l h m:Int} {kh km:IntKind} {len cap:Nat} {b:Bool} (hl:(lo=none/\l=0)\/∃ kd,lo=some (.int kd l)) (h0:0<=l) (h1:l<=h) (h2:h<=m) (h3:m<=cap) :
  (Instr.sliceBounds b len cap lo (some (.int kh h)) (some (.int km m))).run P w=.ok (l.toNat,h.toNat,m.toNat) w:=by
 unfold Instr.sliceBounds Instr.sliceBound
 obtain⟨l',rfl⟩:=uq h0
 obtain⟨h',rfl⟩:=uq (Int.le_trans h0 h1)
 obtain⟨m',rfl⟩:=uq (Int.le_trans (Int.le_trans h0 h1) h2)
 have h1:l'<=h':=by omega
 have h2:h'<=m':=by omega
 have h3:m'<=cap:=by omega
 have h4:(0:Int)<=(l':Int):=h0
 have h5:(0:Int)<=(h':Int):=by omega
 have h6:(0:Int)<=(m':Int):=by omega
 rcases hl with⟨rfl,hl⟩|⟨kd,rfl⟩<;>simp_all [jk,asIntOf]<;>omega
theorem KL {α:Type} {R:List Value->α->Prop} {n:Nat} (h:∀ c y,R c y->c.length=n):∀ (xs:List α) (cs:List Value) (i:Nat),chunks R cs xs->chunks R (cs.take (i*n)) (xs.take i)
 | [],cs,i,hc=>by rw[show cs=[] from hc];simp;rfl
 | x::xs,_,0,_=>by simp;rfl
 | x::xs,_,i+1,⟨c1,c2,h1,h2,h3⟩=>by
  refine⟨c1,c2.take (i*n),?_,h2,KL h xs c2 i h3⟩
  rw[h1,yg,Ej,<-h _ _ h2,List.take_length_add_append]
theorem KD {α:Type} {R:List Value->α->Prop} {n:Nat} (h:∀ c y,R c y->c.length=n):∀ (xs:List α) (cs:List Value) (i:Nat),chunks R cs xs->chunks R (cs.drop (i*n)) (xs.drop i)
 | [],cs,i,hc=>by rw[show cs=[] from hc];simp;rfl
 | x::xs,cs,0,hc=>by simpa using hc
 | x::xs,_,i+1,⟨c1,c2,h1,h2,h3⟩=>by
  have:=KD h xs c2 i h3
  rw[h1,yg,Ej,<-Dv,<-h _ _ h2,Au,h _ _ h2]
  exact this
theorem DZ {ty:Ty} {ys:List ty.den} {b o:Nat} {ds:List Value} {l h c:Nat} (hl:l<=h) (hh:h<=ys.length) (hc:h<=c) (hc2:c<=9223372036854775807) (hn:ys≠[]->fz w E b/\w.rangeAt b o ds/\chunks (rep (fz w E) w ty) ds ys) (p:Option Addr) (hp:h≠l->c≠l->p=some ⟨b,o+l*ty.n,none⟩) :
  (K.val (.list ty) ((ys.take h).drop l)).holds E ρ w (.slice p (h-l) (c-l)):=by
 have hlen:((ys.take h).drop l).length=h-l:=by rw[Ae,mg,zh hh]
 refine⟨[.slice p (h-l) (c-l)],rfl,p,c-l,by rw[show List.length (α:=ty.den) ((ys.take h).drop l)=h-l from hlen],by rw[show List.length (α:=ty.den) ((ys.take h).drop l)=h-l from hlen];omega,by omega,?_⟩
 by_cases e:h=l
 ·left
  show (ys.take h).drop l=[]
  exact qj (by rw[hlen];omega)
 ·right
  have hne:ys≠[]:=fun e2=>by rw[e2] at hh;simp at hh;omega
  obtain⟨h1,h2,h3⟩:=hn hne
  refine⟨b,o+l*ty.n,(ds.take (h*ty.n)).drop (l*ty.n),hp e (by omega),h1,fun j v hv=>?_,KD (fun c y=>dF ty c y) _ _ l (KL (fun c y=>dF ty c y) _ _ h h3)⟩
  rw[List.getElem?_drop] at hv
  have hlt:l*ty.n+j<h*ty.n:=by
   have:=(oz.1 hv).1
   rw[mg] at this;omega
  rw[List.getElem?_take,jl hlt] at hv
  have:=h2 _ _ hv
  rwa [<-Nat.add_assoc] at this
theorem ZR {k:Operand->K} {ev:Operand->Value} {o:Oper} {vc:List Cd} {kk:K} (h:DY P k o.op=some (vc,kk)) (hv:dK vc) (hk:∀ x,(k x).holds E ρ w (ev x)):xG P E ρ w o ev kk/\kk.wf ρ:=by
 cases ho:o.op<;>rw[ho] at h<;>try (simp[DY] at h;done)
 case slice s x lo hi mx =>
  have hkx:=hk x
  have hb:∀ {d:Int} {n:Int} {y:Option Operand},rF k d y=some n->(y.map ev=none/\n=d)\/∃ kd,y.map ev=some (.int kd n):=fun {d n y} hh=>by
   rcases a4Z hh hk with⟨rfl,rfl⟩|⟨z,kd,rfl,h2⟩
   ·exact .inl ⟨rfl,rfl⟩
   ·exact .inr ⟨kd,by simp[h2]⟩
  cases mx with
  | some mx =>
   cases hi<;>simp only[DY] at h<;>try(cases h;done)
   rename_i hi
   split at h<;>try(cases h;done)
   rename_i t ys hx
   rw[hx] at hkx
   split at h<;>try(cases h;done)
   rename_i he
   split at h<;>try(cases h;done)
   rename_i l hh m hlo hhi hmx
   simp only[aj,bf] at h
   obtain⟨rfl,rfl⟩:=h
   obtain⟨v0,v1,v2,v3,_⟩:=hv
   obtain⟨p,c,hxv,k1,k2,k3⟩:=vF (ρ:=ρ) hkx
   obtain⟨e,hu,hf⟩:=mO he
   obtain⟨⟨i2,hi2,hsz⟩,_⟩:=eX hf
   obtain⟨kh,eh⟩:=(hb hhi).resolve_left (fun h=>by cases h.1)
   obtain⟨km,em⟩:=(hb hmx).resolve_left (fun h=>by cases h.1)
   have hr:=ZL (P:=P) (w:=w) (b:=true) (len:=List.length (α:=t.den) ys) (kh:=kh) (km:=km) (hb hlo) v0 v1 v2 (show m<=(c:Int) by omega)
   rw[<-eh,<-em] at hr
   refine⟨fA (s:=Instr.sliceAt s (ev x) (lo.map ev) ((some hi).map ev) ((some mx).map ev)) (by simp only[execOp,ho]) ⟨.slice (if m.toNat=l.toNat then p else p.map (·.add (l.toNat*i2.size))) (hh.toNat-l.toNat) (m.toNat-l.toNat),?_,?_⟩,trivial⟩
   ·rw[hxv]
    simp only[Instr.sliceAt,jk,qg hu w,Result.andThen_ok,Instr.slice,hr,run_sizeOf hi2,Sem.run_pure]
   ·rcases k3 with rfl|⟨b,oo,ds,rfl,k3,k4,k5⟩
    ·have h0:hh.toNat=0:=by simp at v3;omega
     have h1:l.toNat=0:=by omega
     rw[h0,h1]
     exact DZ (b:=0) (o:=0) (ds:=[]) (ay _) (by simp) (uw _) (by omega) (fun e=>absurd rfl e) _ (fun hne=>absurd rfl hne)
    ·refine DZ (b:=b) (o:=oo) (ds:=ds) (by omega) (by omega) (by omega) (by omega) (fun _=>⟨k3,k4,k5⟩) _ (fun _ hne=>?_)
     rw[jd hne,hsz]
     simp[Bd]
  | none =>
  simp only[DY] at h
  split at h<;>try(cases h;done)
  ·rename_i t ys hx
   rw[hx] at hkx
   split at h<;>try(cases h;done)
   rename_i he
   split at h<;>try(cases h;done)
   rename_i l hh hlo hhi
   simp only[b1o,aj,bf] at h
   obtain⟨rfl,rfl⟩:=h
   obtain⟨v0,v1,v2,_⟩:=hv
   obtain⟨p,c,hxv,k1,k2,k3⟩:=vF (ρ:=ρ) hkx
   obtain⟨e,hu,hf⟩:=mO he
   obtain⟨⟨i2,hi2,hsz⟩,_⟩:=eX hf
   have hr:=NS (P:=P) (w:=w) (b:=true) (m:=0) (hb hlo) (hb hhi) v0 v1 (show hh<=(c:Int) by omega)
   refine⟨fA (s:=Instr.sliceAt s (ev x) (lo.map ev) (hi.map ev) none) (by simp only[execOp,ho];rfl) ⟨.slice (if c=l.toNat then p else p.map (·.add (l.toNat*i2.size))) (hh.toNat-l.toNat) (c-l.toNat),?_,?_⟩,trivial⟩
   ·rw[hxv]
    simp only[Instr.sliceAt,jk,qg hu w,Result.andThen_ok,Instr.slice,hr,run_sizeOf hi2,Sem.run_pure]
   ·rcases k3 with rfl|⟨b,oo,ds,rfl,k3,k4,k5⟩
    ·have h0:hh.toNat=0:=by simp at v2;omega
     have h1:l.toNat=0:=by omega
     rw[h0,h1]
     exact DZ (b:=0) (o:=0) (ds:=[]) (ay _) (by simp) (by omega) k2 (fun e=>absurd rfl e) _ (fun hne=>absurd rfl hne)
    ·refine DZ (b:=b) (o:=oo) (ds:=ds) (by omega) (by omega) (by omega) k2 (fun _=>⟨k3,k4,k5⟩) _ (fun _ hne=>?_)
     rw[jd hne,hsz]
     simp[Bd]
  ·rename_i m t ys hx
   rw[hx] at hkx
   split at h<;>try(cases h;done)
   rename_i he
   simp only[au,ak] at he
   obtain⟨he,hm9⟩:=he
   split at h<;>try(cases h;done)
   rename_i l hh hlo hhi
   simp only[b1o,aj,bf] at h
   obtain⟨rfl,rfl⟩:=h
   obtain⟨v0,v1,v2,_⟩:=hv
   obtain⟨b,oo,ds,hxv,k1,k2,kl,k3⟩:=AL hkx
   have kl:List.length (α:=t.den) ys=m:=kl
   obtain⟨e,hu,hf⟩:=IK he
   obtain⟨⟨i2,hi2,hsz⟩,_⟩:=eX hf
   have hr:=NS (P:=P) (w:=w) (b:=false) (m:=0) (len:=m) (cap:=m) (hb hlo) (hb hhi) v0 v1 v2
   refine⟨fA (s:=Instr.sliceAt s (ev x) (lo.map ev) (hi.map ev) none) (by simp only[execOp,ho];rfl) ⟨.slice (some (if m=l.toNat then ⟨b,oo,none⟩ else (⟨b,oo,none⟩:Addr).add (l.toNat*i2.size))) (hh.toNat-l.toNat) (m-l.toNat),?_,?_⟩,trivial⟩
   ·rw[hxv]
    simp only[Instr.sliceAt,jk,qg hu w,Result.andThen_ok,Instr.sureAddr,hr,run_sizeOf hi2,Sem.run_pure]
   ·refine DZ (b:=b) (o:=oo) (ds:=ds) (by omega) (by omega) (by omega) hm9 (fun _=>⟨k1,k2,k3⟩) _ (fun _ hne=>?_)
    rw[jd hne,hsz,Bd]
 case call c =>
  obtain⟨cl,xs,ts⟩:=c
  cases cl<;>try (simp[DY] at h;done)
  rename_i bi
  cases bi<;>try (simp[DY] at h;done)
  all_goals
   simp only[DY] at h
   split at h<;>try(cases h;done)
   rename_i x l hxs
   have hxs:xs=(x::l).toArray:=by apply Dh;simpa using hxs
   subst hxs
   split at h<;>try(cases h;done)
   rename_i ka a hx
   obtain⟨b,hf,h9⟩:=jq.1 h
   cases h9
   have h1:=hk x
   rw[hx] at h1
   have h1:=jO h1
   refine⟨⟨_,?_,jX _ _⟩,trivial⟩
   first
    |have r:=IU (P:=P) (w:=w) (ka:=ka) (g:=Builtin.max2) (f:=a8Z) (fun k j a b=>rfl) hk hf
     simp[execOp,ho,resolve,invoke,builtin,jk,h1,Builtin.max_]
     erw[r];rfl
    |have r:=IU (P:=P) (w:=w) (ka:=ka) (g:=Builtin.min2) (f:=c0C) (fun k j a b=>rfl) hk hf
     simp[execOp,ho,resolve,invoke,builtin,jk,h1,Builtin.min_]
     erw[r];rfl
end
end
end Go.Proofs.YtbkocjmmbkifjaaGreat
