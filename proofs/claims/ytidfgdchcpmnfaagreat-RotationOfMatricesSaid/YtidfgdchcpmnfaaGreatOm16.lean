/-
  Lemmas for the theorem vofmatrices_holds, part 16 of 32.
-/
import Derived.Test.YtidfgdchcpmnfaaGreatOm15
namespace Go.Proofs.YtidfgdchcpmnfaaGreat
open Go Go.RowKit
set_option linter.unusedSimpArgs false
set_option linter.unusedVariables false
def yS (ids:Option (List Nat)) (n:Nat):Option (List Nat):=match ids with
 | none=>none
 | some l=>some (l++[n])
def WE (r r2 v v2:Nat) (e e2:TypeId) (ty:Ty) (ids:Option (List Nat)) (xss:List (List ty.den)) (zs:List ty.den):MK:=some ([xE ids xss+1<=1000000000],.own r (nx v),[(r,.mat e e2 ty (yS ids xss.length) (xss++[zs]) (nx v)),(r2,.row e2 ty [] (nx v2))])
def PS (P:Program) (T:Told) (ρ:Nat->Res) (k:Operand->K) (d:Option Nat):Op->MK
 | .buildSlice t len parts=>match d with
  | some r=>match T.mt r with
   | some ty=>match sliceB P t (.list ty) 0 with
    | some e=>match sliceB P e ty 0 with
     | some e2=>match len,parts.toList with
      | 0,[]=>if (ρ r).isNone&&ty.still then some ([],.own r 0,[(r,.mat e e2 ty none [] 0)]) else none
      | 1,[(0,y)]=>match k y with
       | .own r2 v2=>match ρ r2 with
        | .row _ _ _ v2'=>if gv v2==gv v2'&&sliceB P t (.list ty) 1==some e then some ([],.sng r2 v2,[]) else none
        | _=>none
       | _=>none
      | _,_=>none
     | none=>none
    | none=>none
   | none=>none
  | none=>none
 | .call { callee:=.builtin .append,args:=xs,argTypes:=ts }=>match xs.toList,ts.toList with
  | [s,x],[t,t']=>if t=t' then (match k x with
   | .sng r2 v2=>match ρ r2 with
    | .row e2' ty' ys v2'=>match k s,d with
     | .own r v,_=>match ρ r with
      | .mat e e2 ty ids xss v'=>match jP (.list ty') (.list ty) ys with
       | some zs=>if r2 != r&&gv v==gv v'&&gv v2==gv v2'&&e2'==e2&&sliceB P t (.list ty) 0==some e&&KX P e&&a1E P e 1 then WE r r2 v' v2' e e2 ty ids xss zs else none
       | none=>none
      | _=>none
     | .nil,some r=>match sliceB P t (.list ty') 0 with
      | some e=>if r2 != r&&gv v2==gv v2'&&(ρ r).isNone&&KX P e&&a1E P e 1 then WE r r2 0 v2' e e2' ty' none [] ys else none
      | none=>none
     | _,_=>none
    | _=>none
   | _=>none) else none
  | _,_=>none
 | _=>none
section
variable {P:Program} {E:Env} {ρ:Nat->Res} {W w:World}
theorem IK {α:Type} (ids:Option (List Nat)) (xss:List α) (y:α):dW (yS ids xss.length) (xss++[y])=dW ids xss++[xss.length]:=by
 cases ids with
 | none=>simp[yS,dW,List.range_succ]
 | some l=>rfl
theorem a4q {e e2 t:TypeId} {ty:Ty} {ids:Option (List Nat)} {xss:List (List ty.den)} {ys:List ty.den} {r r2 v v2 b:Nat} {s:Value} {cs0:List Value} {T0:TypeId} (hM:Mem E ρ W w)
  (hb:sliceB P t (.list ty) 0=some e) (hfew:KX P e=true) (hz:a1E P e 1=true) (hne:r2≠r)
  (hr2:ρ r2=.row e2 ty ys v2) (hrv:ρ r=.none\/ρ r=.mat e e2 ty ids xss v)
  (k1:E.blk r=bT s) (k3:w.ownsRow 0 e 1 s (dW ids xss).length cs0) (k4:cs0=(dW ids xss).map (E.inn r)) (k5:CAv cZ w s) (k6:∀ i ∈ dW ids xss,i<xss.length) (k7:∀ i,xss.length<=i->bT (E.inn r i)=none)
  (k8:∀ i xs,xss[i]?=some xs->∃ cs,w.ownsRow 0 e2 ty.n (E.inn r i) xs.length cs/\chunks (rep (fz w E) w ty) cs xs/\CAv cZ w (E.inn r i))
  (hbF:fz w E b) (hbr:w.rangeAt b 0 [E.sl r2]) (hlen:xE ids xss+1<=1000000000) :
  ∃ s' w' E',(Builtin.append_ #[t,t] T0 #[s,.slice (some ⟨b,0,none⟩) 1 1]).run P w=.ok s' w'/\Mem E' (bM (bM ρ r (.mat e e2 ty (yS ids xss.length) (xss++[ys]) (nx v))) r2 (.row e2 ty [] (nx v2))) W w'/\Ext E ρ w E' (bM (bM ρ r (.mat e e2 ty (yS ids xss.length) (xss++[ys]) (nx v))) r2 (.row e2 ty [] (nx v2))) w'/\s'=E'.sl r:=by
 obtain⟨h1,h2,h3,h4,i,z,h5,h6,h7⟩:=mX hb
 have h7:i.size=1:=h7
 have hzk:(∀ u ∈ z.cells.toList,cZ u=true)/\z.cells.size=1:=by
  unfold a1E at hz
  rw[h5] at hz
  simp only[h6,Bool.and_eq_true,List.all_eq_true,beq_iff_eq] at hz
  exact hz
 have a7I:i.bytes<=100000:=by
  unfold KX at hfew
  rw[h5] at hfew
  simpa using hfew
 rw[<-yD] at hlen
 have q2:=hM.res r2
 rw[hr2] at q2
 obtain⟨p1,p2,cs2,p3,p4,p5⟩:=q2
 obtain⟨sp,sc,hsl2⟩:=oU p3
 have hok2:cZ (E.sl r2)=true:=by rw[hsl2];exact FT
 have hbytes:((dW ids xss).length+1)*i.bytes<=140737488355328:=by
  have h9:((dW ids xss).length+1)*i.bytes<=1000000000*100000:=Nat.mul_le_mul hlen a7I
  omega
 obtain⟨g,cap',w',hrun,a1,a2,a3,a4⟩:=BZ (P:=P) (p:=cZ) w 0 t T0 e i z 1 i.bytes h1 h5 h6 h7 rfl hzk.2 (by omega) hzk.1 s (dW ids xss).length cs0 k3 k5 ⟨b,0,none⟩ 1 1 [E.sl r2] rfl (fun j u hu=>by
   have:=hbr j u hu
   rw[Addr.add_mid];exact this) (fun u hu=>by
   rw[List.mem_singleton.1 hu]
   simp only[cZ,Bool.and_eq_true] at hok2;exact hok2.1) (fun u hu=>by rw[List.mem_singleton.1 hu];exact hok2) (by omega) (by simp only[maxLen];omega) hbytes (Nat.zero_le _)
 have hcnt:(ρ r).cnt<=xss.length:=by
  rcases hrv with h|h
  ·rw[h];exact Nat.zero_le _
  ·rw[h];exact Nat.le_refl _
 have hgo:kD E w w' (fun q=>q=r\/q=r2):=⟨a2.os,a2.tape,a2.output,a2.size,fun q hq hn=>a2.block q hq (fun e9=>hn r 0 (.inl rfl) (by show E.blk r=some q;rw[k1,oH,<-e9])),fun q o' n hc=>by
  by_cases e9:s.ownBlock=some q
  ·have:=k5 q e9 _ _ hc
   simp[cZ,aS] at this
  ·rw[<-hc]
   exact World.cell?_of_block (w:=w) (a2.block q (cell_lt hc) (fun e8=>e9 e8.symm))⟩
 have hg:E.has r 0 g\/w.heap.size<=g:=by
  rcases a4 with h|h
  ·exact .inl (by show E.blk r=some g;rw[k1,oH];exact h)
  ·exact .inr (by omega)
 let s':Value:=.slice (some ⟨g,0,none⟩) ((dW ids xss).length+1) cap'
 let E':Env:=(E.uT r (some g) s' (bM (E.inn r) xss.length (E.sl r2))).put r2 none (.slice none 0 0)
 let ρ':=bM (bM ρ r (.mat e e2 ty (yS ids xss.length) (xss++[ys]) (nx v))) r2 (.row e2 ty [] (nx v2))
 have hnr:r≠r2:=fun e=>hne e.symm
 have a0h:E'.blk r=some g:=by show bM (bM E.blk r _) r2 _ r=_;rw[aU _ _ hnr,aC]
 have XA:E'.sl r=s':=by show bM (bM E.sl r _) r2 _ r=_;rw[aU _ _ hnr,aC]
 have xG:E'.inn r=bM (E.inn r) xss.length (E.sl r2):=by show bM (bM E.inn r _) r2 _ r=_;rw[aU _ _ hnr,aC]
 have a0:E'.blk r2=none:=aC _ _ _
 have OL:E'.sl r2=.slice none 0 0:=aC _ _ _
 have b0:E'.inn r2=fun _=>undef:=aC _ _ _
 have hE:∀ q,¬ (q=r\/q=r2)->E'.blk q=E.blk q/\E'.sl q=E.sl q/\E'.inn q=E.inn q/\ρ' q=ρ q:=fun q hq=>by
  have n1:q≠r:=fun e=>hq (.inl e)
  have n2:q≠r2:=fun e=>hq (.inr e)
  exact⟨(aU _ _ n2).trans (aU _ _ n1),(aU _ _ n2).trans (aU _ _ n1),(aU _ _ n2).trans (aU _ _ n1),(aU _ _ n2).trans (aU _ _ n1)⟩
 have XF:∀ j b,¬ E'.has r2 j b:=fun j b hh=>by
  cases j with
  | zero=>have hh:E'.blk r2=some b:=hh;rw[a0] at hh;cases hh
  | succ j=>have hh:bT (E'.inn r2 j)=some b:=hh;rw[b0] at hh;cases hh
 have hmap:∀ j b,E'.has r j b->(j=0/\b=g)\/(j=xss.length+1/\E.has r2 0 b)\/(j≠0/\j≠xss.length+1/\E.has r j b):=fun j b hh=>by
  cases j with
  | zero=>have hh:E'.blk r=some b:=hh;rw[a0h] at hh;cases hh;exact .inl ⟨rfl,rfl⟩
  | succ j =>
   have hh:bT (E'.inn r j)=some b:=hh
   rw[xG] at hh
   by_cases ej:j=xss.length
   ·subst ej
    rw[aC] at hh
    exact .inr (.inl ⟨rfl,p1.trans hh⟩)
   ·rw[aU _ _ ej] at hh
    exact .inr (.inr ⟨by omega,by omega,hh⟩)
 have hF:∀ q,fz w E q->fz w' E' q:=vC (S:=fun q=>q=r\/q=r2) hgo.size rfl (fun q hq=>⟨(hE q hq).1,(hE q hq).2.2.1⟩) (fun r' j q e hh=>by
  rcases e with rfl|rfl
  ·rcases hmap j q hh with⟨_,rfl⟩|⟨_,h⟩|⟨_,_,h⟩
   ·exact hg.imp (fun h=>⟨_,_,h⟩) id
   ·exact .inl ⟨_,_,h⟩
   ·exact .inl ⟨_,_,h⟩
  ·exact(XF j q hh).elim)
 have hnb:∀ r' j q,E.has r' j q->(r'≠r\/j≠0)->w'.heap[q]?=w.heap[q]?:=fun r' j q hh hj=>a2.block q (hM.lt hh) (fun e9=>by
  have h0:E.has r 0 q:=by show E.blk r=some q;rw[k1,oH,<-e9]
  have:=hM.inj _ _ _ _ _ hh h0
  rcases hj with hj|hj
  ·exact hj this.1
  ·exact hj this.2)
 have IJ:ρ' r=.mat e e2 ty (yS ids xss.length) (xss++[ys]) (nx v):=(aU _ _ hnr).trans (aC _ _ _)
 have yR:ρ' r2=.row e2 ty [] (nx v2):=aC _ _ _
 have hx:lU E' w' r (.mat e e2 ty (yS ids xss.length) (xss++[ys]) (nx v)):=by
  refine⟨by rw[XA,a0h];rfl,p2,⟨cs0++[E.sl r2],?_,?_,by rw[XA];intro g' hg';cases hg';exact a3⟩,fun x hx=>?_,fun j hj=>?_,fun j zs hj=>?_⟩
  ·rw[XA,IK,List.length_append];exact a1
  ·rw[xG,k4,IK,List.map_append,List.map_cons,List.map_nil,aC]
   congr 1
   refine List.map_congr_left (fun x hx=>?_)
   have:=k6 x hx
   rw[aU _ _ (by omega)]
  ·rw[IK] at hx
   rw[List.length_append]
   rcases List.mem_append.1 hx with hx|hx
   ·have:=k6 x hx;simp;omega
   ·rw[List.mem_singleton.1 hx];simp
  ·rw[List.length_append,List.length_singleton] at hj
   rw[xG,aU _ _ (by omega)]
   exact k7 j (by omega)
  ·rw[xG]
   by_cases ej:j=xss.length
   ·subst ej
    rw[List.getElem?_append_right (Nat.le_refl _),Nat.sub_self] at hj
    cases hj
    rw[aC]
    have hb1:∀ b,bT (E.sl r2)=some b->w'.heap[b]?=w.heap[b]?:=fun b hb=>hnb r2 0 b (p1.trans hb) (.inl hne)
    exact⟨cs2,fC p3 hb1,bC (fun c y=>dA hF hgo.stay ty c y) _ _ p4,kG p5 hb1⟩
   ·have hj2:xss[j]?=some zs:=by
     by_cases hjl:j<xss.length
     ·rwa [List.getElem?_append_left hjl] at hj
     ·rw[List.getElem?_eq_none (by rw[List.length_append,List.length_singleton];omega)] at hj;cases hj
    rw[aU _ _ ej]
    obtain⟨cs9,r1,r2,r3⟩:=k8 j zs hj2
    have hb1:∀ b,bT (E.inn r j)=some b->w'.heap[b]?=w.heap[b]?:=fun b hb=>hnb r (j+1) b hb (.inr (by omega))
    exact⟨cs9,fC r1 hb1,bC (fun c y=>dA hF hgo.stay ty c y) _ _ r2,kG r3 hb1⟩
 have hx2:lU E' w' r2 (.row e2 ty [] (nx v2)):=⟨by rw[a0,OL];rfl,p2,[],by rw[OL];exact World.ownsRow_nil _ _ _ _,rfl,by rw[OL];intro g hg;cases hg⟩
 have hgl:∀ j b,j≠0->E.has r j b->b≠g:=fun j b hj hh e9=>by
  subst e9
  rcases hg with h|h
  ·exact hj (hM.inj _ _ _ _ _ hh h).2
  ·have:=hM.lt hh;omega
 have b6t:∀ b,E.has r2 0 b->b≠g:=fun b hh e9=>by
  subst e9
  rcases hg with h|h
  ·exact hne (hM.inj _ _ _ _ _ hh h).1
  ·have:=hM.lt hh;omega
 obtain⟨m1,m2⟩:=hM.turns (E':=E') (ρ':=ρ') (w':=w') (fun q=>q=r\/q=r2) hgo hE rfl rfl rfl (fun r' j b e hh=>by
   rcases e with rfl|rfl
   ·rcases hmap j b hh with⟨_,rfl⟩|⟨_,h⟩|⟨_,_,h⟩
    ·exact hg.imp (fun h=>⟨_,_,.inl rfl,h⟩) id
    ·exact .inl ⟨_,_,.inr rfl,h⟩
    ·exact .inl ⟨_,_,.inl rfl,h⟩
   ·exact(XF j b hh).elim) (fun r' j r'' j' b e' e'' hh hh'=>by
   rcases e' with rfl|rfl
   ·rcases e'' with rfl|rfl
    ·refine⟨rfl,?_⟩
     rcases hmap j b hh with⟨q1,q2⟩|⟨q1,q2⟩|⟨q1,q0,q2⟩<;>rcases hmap j' b hh' with⟨q3,q4⟩|⟨q3,q4⟩|⟨q3,q5,q4⟩
     ·omega
     ·exact absurd q2 (b6t _ q4)
     ·exact absurd q2 (hgl _ _ q3 q4)
     ·exact absurd q4 (b6t _ q2)
     ·omega
     ·exact absurd (hM.inj _ _ _ _ _ q2 q4).1 hne
     ·exact absurd q4 (hgl _ _ q1 q2)
     ·exact absurd (hM.inj _ _ _ _ _ q4 q2).1 hne
     ·exact(hM.inj _ _ _ _ _ q2 q4).2
    ·exact(XF j' b hh').elim
   ·exact(XF j b hh).elim) (fun r' i' e' hc=>by
   rcases e' with rfl|rfl
   ·rw[IJ] at hc
    have hc:(xss++[ys]).length<=i':=hc
    rw[List.length_append,List.length_singleton] at hc
    rw[xG,aU _ _ (by omega)]
    exact k7 i' (by omega)
   ·rw[b0];rfl) (fun r' e' h=>by
   rcases e' with rfl|rfl
   ·rcases hrv with h9|h9<;>(rw[h9] at h;exact h.elim)
   ·rw[hr2] at h;exact h.elim) (fun r' e' h=>by
   rcases e' with rfl|rfl
   ·rcases hrv with h9|h9<;>(rw[h9] at h;exact h.elim)
   ·rw[hr2] at h;exact h.elim) (fun r' v' e' h=>by
   rcases e' with rfl|rfl
   ·rw[IJ]
    rcases hrv with h9|h9
    ·rw[h9] at h;exact h.elim
    ·rw[h9] at h;exact Nat.le_trans h (a4k _)
   ·rw[hr2] at h;rw[yR];exact Nat.le_trans h (a4k _)) (fun r' v' e' h h'=>by
   rcases e' with rfl|rfl
   ·rw[IJ] at h'
    have h':gv (nx v)=gv v':=h'
    rcases hrv with h9|h9
    ·rw[h9] at h;exact h.elim
    ·rw[h9] at h
     have h:v'<=v:=h
     have:=KC h
     have:=a0g v
     omega
   ·rw[hr2] at h;rw[yR] at h'
    have h:v'<=v2:=h
    have h':gv (nx v2)=gv v':=h'
    have:=KC h
    have:=a0g v2
    omega) (fun r' v' e' h h'=>by
   rcases e' with rfl|rfl
   ·rw[IJ] at h'
    have h':nx v=v':=h'
    rcases hrv with h9|h9
    ·rw[h9] at h;exact h.elim
    ·rw[h9] at h
     have h:v'<=v:=h
     have:=KC h
     have:=a0g v
     rw[<-h'] at h
     have:=KC h
     omega
   ·rw[yR] at h';exact h'.elim) (fun r' e'=>by
   rcases e' with rfl|rfl
   ·rw[IJ];exact hx
   ·rw[yR];exact hx2) (fun _ r' k e' h=>by
   rcases e' with rfl|rfl
   ·rw[IJ] at h;cases h
   ·rw[yR] at h;cases h)
 exact⟨s',w',E',hrun,m1,m2,XA.symm⟩
theorem b0m {T:Told} {k:Operand->K} {ev:Operand->Value} {o:Oper} {vc:List Prop} {kk:K} {l:List (Nat × Res)} (h:PS P T ρ k o.dst o.op=some (vc,kk,l)) (hv:dZ vc) (hM:Mem E ρ W w) (hw:∀ x,(k x).wf ρ) (hk:∀ x,(k x).holds E ρ w (ev x)):fU P E ρ W w o ev kk l:=by
 cases ho:o.op<;>rw[ho] at h<;>try (simp[PS] at h;done)
 case buildSlice t len parts =>
  simp only[PS] at h
  split at h<;>first|(cases h;done)|skip
  rename_i r hd
  split at h<;>first|(cases h;done)|skip
  rename_i ty hty
  split at h<;>first|(cases h;done)|skip
  rename_i e hsb
  split at h<;>first|(cases h;done)|skip
  rename_i e2 b8e
  split at h<;>first|(cases h;done)|skip
  ·rename_i hp
   have hp:parts=#[]:=by apply Array.ext';simpa using hp
   subst hp
   split at h<;>first|(cases h;done)|skip
   rename_i hc
   simp only[Bool.and_eq_true] at hc
   simp only[Option.some.injEq,Prod.mk.injEq] at h
   obtain⟨_,rfl,rfl⟩:=h
   have hρ:=Res.lI hc.1
   have hrun:=run_buildSlice (P:=P) (w:=w) (t:=t) (ty:=.list ty) (xs:=[]) (vs:=[]) (ps:=[]) (n:=0) hsb rfl .nil
   obtain⟨w1,w2,w3⟩:=CZ (w:=w) (e:=e) (n:=0) (m:=1) (L:=[]) rfl (by omega) (fun u hu=>by cases hu)
   have hsl:(E.uT r (some w.heap.size) (.slice (some ⟨w.heap.size,0,none⟩) 0 0) (fun _=>undef)).sl r=.slice (some ⟨w.heap.size,0,none⟩) 0 0:=aC _ _ _
   have hin:(E.uT r (some w.heap.size) (.slice (some ⟨w.heap.size,0,none⟩) 0 0) (fun _=>undef)).inn r=fun _=>undef:=aC _ _ _
   obtain⟨m1,m2⟩:=hM.FX (w':=w.alloc (.cells ([]:List Value).toArray e)) r (kD.below w1 _) (some w.heap.size) (.slice (some ⟨w.heap.size,0,none⟩) 0 0) (fun _=>undef) (.mat e e2 ty none [] 0)
    ⟨by rw[hsl];show bM E.blk r _ r=_;rw[aC];rfl,hc.2,⟨[],by rw[hsl];exact w2,rfl,by rw[hsl];exact w3⟩,fun x hx=>by simp[dW] at hx,fun j _=>by rw[hin];rfl,fun j xs hj=>by simp at hj⟩ (fun q hq=>by
     rcases hq with hq|⟨j,hq⟩
     ·cases hq;exact .inr (Nat.le_refl _)
     ·cases hq) (fun q j _ hq=>by cases hq) (fun j j' q hq=>by cases hq) (fun j _=>rfl) (fun h=>by rw[hρ] at h;exact h.elim) (fun h=>by rw[hρ] at h;exact h.elim) (fun v h=>by rw[hρ] at h;exact h.elim) (fun v h=>by rw[hρ] at h;exact h.elim) (fun v h=>by rw[hρ] at h;exact h.elim) (fun _ k e=>by cases e)
   refine fU.of (s:=Instr.buildSlice t 0 #[]) (by simp[execOp,ho]) ⟨_,_,_,hrun,m1,m2,?_,fun _=>hsl.symm⟩
   show Res.eP 0 (bM ρ r _ r)
   rw[aC]
   exact Nat.le_refl 0
  ·rename_i y hp
   have hp:parts=#[(0,y)]:=by apply Array.ext';simpa using hp
   subst hp
   split at h<;>first|(cases h;done)|skip
   rename_i r2 v2 hy
   split at h<;>first|(cases h;done)|skip
   rename_i e9 t9 xs9 v9 hr2
   split at h<;>first|(cases h;done)|skip
   rename_i hc
   simp only[Bool.and_eq_true,beq_iff_eq] at hc
   obtain⟨hv9,b8d⟩:=hc
   simp only[Option.some.injEq,Prod.mk.injEq] at h
   obtain⟨_,rfl,rfl⟩:=h
   have hky:=hk y
   have hwy:=hw y
   rw[hy] at hky hwy
   have hyv:ev y=E.sl r2:=hky (by rw[hr2];exact hv9.symm)
   have h2:=hM.res r2
   rw[hr2] at h2
   obtain⟨_,_,cs2,p3,p4,_⟩:=h2
   obtain⟨sp,sc,hsl2⟩:=oU p3
   have hcells:(ev y).cells.toList=[E.sl r2]:=by rw[hyv,hsl2];rfl
   have hrun:=run_buildSlice (P:=P) (w:=w) (t:=t) (ty:=.list ty) (xs:=[]) (vs:=[ev y]) (ps:=[]) (n:=1) b8d rfl (.cons ⟨by simp,by show (ev y).cells.toList.length=1;rw[hcells];rfl⟩ .nil)
   have hL:(List.map (fun v=>Value.cells v |>.toList) [ev y]).flatten=[E.sl r2]:=by simp[hcells]
   rw[hL] at hrun
   have hb:Below w.heap.size w (w.alloc (.cells [E.sl r2].toArray e)):=(Below.refl _ _).alloc (Nat.le_refl _) _
   have hcell:(w.alloc (.cells [E.sl r2].toArray e)).heap[w.heap.size]?=some (.cells [E.sl r2].toArray e (0,0)):=heap_alloc_new w _
   obtain⟨m1,m2⟩:=hM.grows hb
   refine fU.of (s:=Instr.buildSlice t 1 #[(0,ev y)]) (by simp[execOp,ho]) ⟨_,_,E,hrun,m1,m2,hwy,fun _=>⟨w.heap.size,rfl,yL (by simp) (hM.base _ (.inr hM.below.size)) (fun r' j hh=>by have:=hM.lt hh;omega),fun j u hu=>?_⟩⟩
   rw[Nat.zero_add,cell_of_row _ _ _ _ _ _ hcell];simpa using hu
 case call c =>
  obtain⟨cl,xs,ts⟩:=c
  cases cl<;>try (simp[PS] at h;done)
  rename_i bi
  cases bi<;>try (simp[PS] at h;done)
  simp only[PS] at h
  split at h<;>first|(cases h;done)|skip
  rename_i s x t t' hxs hts
  have exs:xs=#[s,x]:=by rw[<-Array.toArray_toList (xs:=xs),hxs]
  have ets:ts=#[t,t']:=by rw[<-Array.toArray_toList (xs:=ts),hts]
  subst exs ets
  split at h<;>first|(cases h;done)|skip
  rename_i htt
  subst htt
  split at h<;>first|(cases h;done)|skip
  rename_i r2 v2 hx
  split at h<;>first|(cases h;done)|skip
  rename_i e2' ty' ys v2' hr2
  have hkx:=hk x
  rw[hx] at hkx
  split at h<;>first|(cases h;done)|skip
  ·rename_i _ r v hs
   have hks:=hk s
   rw[hs] at hks
   split at h<;>first|(cases h;done)|skip
   rename_i e e2 ty ids xss v' hr
   split at h<;>first|(cases h;done)|skip
   rename_i zs hcast
   split at h<;>first|(cases h;done)|skip
   rename_i hc
   simp only[Bool.and_eq_true,beq_iff_eq,bne_iff_ne,ne_eq] at hc
   obtain⟨⟨⟨⟨⟨⟨c1,c2⟩,c3⟩,c4⟩,c5⟩,c6⟩,c7⟩:=hc
   subst c4
   obtain⟨e9,hcast⟩:=fK hcast
   simp only[Ty.list.injEq] at e9
   subst e9
   have hcast:ys=zs:=hcast
   subst hcast
   simp only[WE,Option.some.injEq,Prod.mk.injEq] at h
   obtain⟨rfl,rfl,rfl⟩:=h
   obtain⟨b,hxv,hbF,hbr⟩:=hkx (by rw[hr2];exact c3.symm)
   have hsv:ev s=E.sl r:=hks (by rw[hr];exact c2.symm)
   have h1:=hM.res r
   rw[hr] at h1
   obtain⟨k1,k2,⟨cs0,k3,k4,k5⟩,k6,k7,k8⟩:=h1
   obtain⟨s',w',E',g1,g2,g3,g4⟩:=a4q (T0:=o.type) hM c5 c6 c7 c1 hr2 (.inr hr) k1 k3 k4 k5 k6 k7 k8 hbF hbr hv.1
   refine fU.of (qX ho) ⟨s',w',E',by rw[hsv,hxv];exact g1,g2,g3,?_,fun _=>g4⟩
   show Res.eP (nx v') (bM (bM ρ r _) r2 _ r)
   rw[aU _ _ (fun e=>c1 e.symm),aC]
   exact Nat.le_refl _
  ·rename_i r hs hd
   have hks:=hk s
   rw[hs] at hks
   split at h<;>first|(cases h;done)|skip
   rename_i e hsb
   split at h<;>first|(cases h;done)|skip
   rename_i hc
   simp only[Bool.and_eq_true,beq_iff_eq,bne_iff_ne,ne_eq] at hc
   obtain⟨⟨⟨⟨c1,c3⟩,c4⟩,c6⟩,c7⟩:=hc
   simp only[WE,Option.some.injEq,Prod.mk.injEq] at h
   obtain⟨rfl,rfl,rfl⟩:=h
   obtain⟨b,hxv,hbF,hbr⟩:=hkx (by rw[hr2];exact c3.symm)
   have hsv:ev s=.slice none 0 0:=hks
   have hr:=Res.lI c4
   have h1:=hM.res r
   rw[hr] at h1
   obtain⟨s',w',E',g1,g2,g3,g4⟩:=a4q (T0:=o.type) (ids:=none) (xss:=[]) (v:=0) (s:=.slice none 0 0) (cs0:=[]) hM hsb c6 c7 c1 hr2 (.inl hr) h1 (World.ownsRow_nil w _ _ _) rfl (fun g hg=>by cases hg) (fun i hi=>by simp[dW] at hi) (fun i _=>hM.inner r i (by rw[hr];exact Nat.zero_le _)) (fun i xs hi=>by simp at hi) hbF hbr hv.1
   refine fU.of (qX ho) ⟨s',w',E',by rw[hsv,hxv];exact g1,g2,g3,?_,fun _=>g4⟩
   show Res.eP (nx 0) (bM (bM ρ r _) r2 _ r)
   rw[aU _ _ (fun e=>c1 e.symm),aC]
   exact Nat.le_refl _
end
def xU (ρ:Nat->Res):(ts:List Ty)->List K->Option (List Prop × (nest ts).den × List (Nat × Res))
 | [],[]=>some ([],(),[])
 | t::ts,k::ks=>match vX ρ (some t) k with
  | some (p,l)=>match nY p.t t,xU (after ρ l) ts ks with
   | some q,some (vc,x,l')=>some (q.c p.x++vc,(q.f p.x,x),l++l')
   | _,_=>none
  | none=>none
 | _,_=>none
def ZK:(t:Ty)->t.den->List K
 | .pair a b,x=>.val a x.1::ZK b x.2
 | _,_=>[]
def xB:Ty->Bool
 | .pair a b=>!a.agg&&xB b
 | .unit=>true
 | _=>false
def a5f:List K->Option Part
 | []=>some ⟨.unit,()⟩
 | .val t x::ks=>if t.agg then none else (a5f ks).map fun p=>⟨.pair t p.t,(x,p.x)⟩
 | _=>none
def GZ (P:Program) (g:FuncId):Bool:=match P.funcs[g]? with
 | some fn=>!(fn.name == "runtime.NumGoroutine")&&!fn.body.isNone
 | none=>false
def BQ:List K->Option (List K0)
 | []=>some []
 | .val t x::ks=>if t.agg then none else (BQ ks).map fun l=>.val t x::l
 | .ptr r o::ks=>(BQ ks).map fun l=>.ptr r o::l
 | .lJ r::ks=>(BQ ks).map fun l=>.lJ r::l
 | _=>none
def Ty.free:Ty->Bool
 | .bool=>true
 | .int _=>true
 | .lf _=>true
 | .arr _ t=>t.free
 | .pair a b=>a.free&&b.free
 | .unit=>true
 | _=>false
def rowsOf {α:Type} (ids:Option (List Nat)) (xss:List (List α)):List (List α):=match ids with
 | none=>xss
 | some l=>l.map (rowAt xss)
def sU (ρ:Nat->Res) (t:Option Ty):K->Option Part
 | .val t x=>some ⟨t,x⟩
 | .nil=>match t with
  | some (.list u)=>some ⟨.list u,[]⟩
  | _=>none
 | .own r v=>match ρ r with
  | .row _ t xs v'=>if gv v=gv v' then some ⟨.list t,xs⟩ else none
  | .fro t xs v'=>if gv v=gv v' then some ⟨.list t,xs⟩ else none
  | .mat _ _ t ids xss v'=>if gv v=gv v' then some ⟨.list (.list t),rowsOf ids xss⟩ else none
  | _=>none
 | .mrow r v i=>match ρ r with
  | .mat _ _ t _ xss v'=>if v=v' then some ⟨.list t,rowAt xss i⟩ else none
  | _=>none
 | _=>none
def b7b (p:Part):Part:=⟨.ref p.t,p.x⟩
def b1r (t:Option Ty) (ps:List Part) (o:Nat):Option Part:=match t,ED ps o with
 | some (.ref u),some (_,qs)=>(pack u qs).map fun p=>b7b p.1
 | _,_=>none
def CB (ρ:Nat->Res) (t:Option Ty):K->Option Part
 | .ptr r o=>match ρ r with
  | .box ps=>b1r t ps o
  | _=>none
 | .lJ r=>match ρ r with
  | .kT k=>match t with
   | some (.ref u)=>(sU ρ (some u) k).map b7b
   | _=>none
  | _=>none
 | k=>sU ρ t k
def iM (ρ:Nat->Res):Ty->List K0->Option Part
 | .unit,[]=>some ⟨.unit,()⟩
 | .pair a b,k::ks=>match CB ρ (some a) (k0K k),iM ρ b ks with
  | some p,some q=>if p.t.agg then none else some ⟨.pair p.t q.t,(p.x,q.x)⟩
  | _,_=>none
 | _,_=>none
def b7z (g:Nat) (p:Part):Part:=⟨.clo g p.t,p.x⟩
def RU (ρ:Nat->Res) (t:Ty):K->Option Part
 | .fn g ks=>match t with
  | .clo _ u=>(iM ρ u ks).map (b7z g)
  | _=>none
 | k=>CB ρ (some t) k
def lZ (ρ:Nat->Res):(ts:List Ty)->List K->Option (List Prop × (nest ts).den)
 | [],[]=>some ([],())
 | t::ts,k::ks=>match RU ρ t k with
  | some p=>match nY p.t t,lZ ρ ts ks with
   | some q,some (vc,x)=>some (q.c p.x++vc,(q.f p.x,x))
   | _,_=>none
  | none=>none
 | _,_=>none
def b6e (c:Ctr):Bool:=c.res.all Ty.free
def a4Q {α:Type} (a:List Prop × α):List Prop × α × List (Nat × Res):=(a.1,a.2,[])
def ZC (ρ:Nat->Res) (c:Ctr) (ks:List K):Option (List Prop × (nest c.args).den × List (Nat × Res)) :=
 orC (if b6e c then (lZ ρ c.args ks).map a4Q else none) (xU ρ c.args ks)
def b0W (c:Ctr) (a:List Prop × (nest c.args).den × List (Nat × Res)):List Prop × K × List (Nat × Res):=(a.1++[c.pre a.2.1],a8I c.res (c.fn a.2.1),a.2.2)
def BO (ρ:Nat->Res) (ks:List K):List Ctr->MK
 | []=>none
 | c::cs=>match ZC ρ c ks with
  | some a=>some (b0W c a)
  | none=>BO ρ ks cs
def uK (P:Program) (C:FuncId->List Ctr) (ρ:Nat->Res) (k:Operand->K):Op->MK
 | .makeFunc (.func g) first caps=>if first.isEmpty then (match a5f (caps.toList.map k) with
  | some p=>some ([],.val (.clo g p.t) p.x,[])
  | none=>(BQ (caps.toList.map k)).map fun l=>([],.fn g l,[])) else none
 | .call { callee:=.value f,args:=xs,argTypes:=_ }=>match k f with
  | .val (.clo g t) cx=>if GZ P g&&xB t then BO ρ (xs.toList.map k++ZK t cx) (C g) else none
  | .fn g l=>if GZ P g then BO ρ (xs.toList.map k++l.map k0K) (C g) else none
  | _=>none
 | _=>none
section
variable {P:Program} {E:Env} {ρ:Nat->Res} {W w:World}
theorem MR:∀ {ts:List Ty} {ks:List K} {ρ:Nat->Res} {E:Env} {vc:List Prop} {x:(nest ts).den} {l:List (Nat × Res)} {vs:List Value},xU ρ ts ks=some (vc,x,l)->dZ vc->Mem E ρ W w->(∀ k ∈ ks,k.wf ρ)->kN (fun k v=>K.holds E ρ w k v) ks vs ->
  ∃ E',Mem E' (after ρ l) W w/\Ext E ρ w E' (after ρ l) w/\jF (fz w E') w ts vs x
 | [],[],ρ,E,vc,x,l,vs,h,hv,hM,hw,hk=>by
  simp only[xU,Option.some.injEq,Prod.mk.injEq] at h
  obtain⟨_,_,rfl⟩:=h
  cases hk
  exact⟨E,hM,Ext.refl _ _ _,rfl⟩
 | [],_::_,ρ,E,vc,x,l,vs,h,hv,hM,hw,hk=>by simp[xU] at h
 | _::_,[],ρ,E,vc,x,l,vs,h,hv,hM,hw,hk=>by simp[xU] at h
 | t::ts,k::ks,ρ,E,vc,x,l,vs,h,hv,hM,hw,hk=>by
  simp only[xU] at h
  split at h<;>first|(cases h;done)|skip
  rename_i p l1 h1
  split at h<;>first|(cases h;done)|skip
  rename_i q vc2 x2 l2 hq h2
  simp only[Option.some.injEq,Prod.mk.injEq] at h
  obtain⟨rfl,rfl,rfl⟩:=h
  cases hk
  rename_i v vs hv1 hvs
  obtain⟨E1,m1,m2,m3⟩:=qO h1 hM (hw k (List.mem_cons_self ..)) hv1
  have b2h:kN (fun k v=>K.holds E1 (after ρ l1) w k v) ks vs:=by
   have hw':∀ k ∈ ks,k.wf ρ:=fun k hk=>hw k (List.mem_cons_of_mem _ hk)
   clear h2 hw
   induction hvs with
   | nil=>exact .nil
   | cons a b ih=>exact .cons (m2.holds _ _ (hw' _ (List.mem_cons_self ..)) a) (ih (fun k hk=>hw' k (List.mem_cons_of_mem _ hk)))
  obtain⟨hva,hvb⟩:=bI.1 hv
  obtain⟨E2,n1,n2,n3⟩:=MR h2 hvb m1 (fun k hk=>m2.wf k (hw k (List.mem_cons_of_mem _ hk))) b2h
  refine⟨E2,by rw[gG];exact n1,by rw[gG];exact m2.trans n2,v,vs,rfl,?_,n3⟩
  obtain⟨cs,rfl,hr⟩:=gQ n2.fz n2.stay m3
  exact⟨cs,by unfold Ty.toV;rw[yE _ _ _ hq],zW _ _ _ hq cs _ hr hva⟩
theorem WO {F:Nat->Prop}:(t:Ty)->(x:t.den)->(ds:List Value)->xB t=true->rep F w t ds x->(∀ q,F q->fz w E q)->kN (fun k v=>K.holds E ρ w k v) (ZK t x) ds/\∀ k ∈ ZK t x,k.wf ρ
 | .pair a b,x,ds,h,⟨c1,c2,h1,h2,h3⟩,hF=>by
  simp only[xB,Bool.and_eq_true,Bool.not_eq_true'] at h
  obtain⟨k1,k2⟩:=WO b x.2 c2 h.2 h3 hF
  have hl:=dU a _ _ h2
  have hn:a.n=1:=by
   have:=h.1
   cases a<;>simp_all [Ty.agg,Ty.n]
   rename_i l;cases l<;>simp_all [Lf.agg,Lf.n]
  rw[hn] at hl
  obtain⟨v,rfl⟩:∃ v,c1=[v]:=by
   match c1,hl with
   | [v],_=>exact⟨v,rfl⟩
  refine⟨by rw[h1];exact .cons ⟨[v],by unfold Ty.toV;rw[h.1];rfl,dA hF (jG.refl _ _) a _ _ h2⟩ k1,fun k hk=>?_⟩
  rcases List.mem_cons.1 hk with rfl|hk
  ·trivial
  ·exact k2 k hk
 | .unit,x,ds,h,hr,hF=>⟨by rw[show ds=[] from hr];exact .nil,fun k hk=>by cases hk⟩
 | .bool,x,ds,h,hr,hF=>by simp[xB] at h
 | .int _,x,ds,h,hr,hF=>by simp[xB] at h
 | .lf _,x,ds,h,hr,hF=>by simp[xB] at h
 | .list _,x,ds,h,hr,hF=>by simp[xB] at h
 | .arr _ _,x,ds,h,hr,hF=>by simp[xB] at h
 | .ref _,x,ds,h,hr,hF=>by simp[xB] at h
 | .clo _ _,x,ds,h,hr,hF=>by simp[xB] at h
theorem a3J:∀ {ks:List K} {p:Part} {vs:List Value},a5f ks=some p->kN (fun k v=>K.holds E ρ w k v) ks vs->rep (fz w E) w p.t vs p.x
 | [],p,vs,h,hk=>by
  simp only[a5f,Option.some.injEq] at h
  subst h
  cases hk
  rfl
 | k::ks,p,vs,h,hk=>by
  cases k<;>try (simp[a5f] at h;done)
  rename_i t x
  simp only[a5f] at h
  split at h<;>first|(cases h;done)|skip
  rename_i ha
  simp only[Option.map_eq_some_iff] at h
  obtain⟨p',h1,rfl⟩:=h
  cases hk
  rename_i v vs hv hvs
  obtain⟨cs,rfl,hr⟩:=hv
  have ha:t.agg=false:=by simpa using ha
  have hl:=dU t _ _ hr
  have hn:t.n=1:=by
   cases t<;>simp_all [Ty.agg,Ty.n]
   rename_i l;cases l<;>simp_all [Lf.agg,Lf.n]
  rw[hn] at hl
  obtain⟨v,rfl⟩:∃ v,cs=[v]:=by
   match cs,hl with
   | [v],_=>exact⟨v,rfl⟩
  exact⟨[v],vs,by unfold Ty.toV;rw[ha];rfl,hr,a3J h1 hvs⟩
theorem TP {g:FuncId} {args:Array Value} (h:GZ P g=true):(callFunc g args).run P w=.ok (.enter g args) w:=by
 unfold GZ at h
 split at h<;>first|(cases h;done)|skip
 rename_i fn hf
 simp only[Bool.and_eq_true,Bool.not_eq_true'] at h
 unfold callFunc
 rw[Sem.run_bind]
 show (Result.ok P w).andThen _=_
 simp only[Result.andThen_ok,hf,h.1,h.2,Bool.false_eq_true,if_false]
 rfl
theorem MB {F:Nat->Prop} {ts:List Ty} {v:Value} {y:(nest ts).den} (hF:∀ q,F q->fz w E q) (h:qK F w ts v y):(a8I ts y).holds E ρ w v/\(a8I ts y).wf ρ:=by
 match ts,y,h with
 | [t],y,h=>exact⟨gQ hF (jG.refl _ _) h,trivial⟩
 | [],y,⟨vs,h1,h2⟩=>exact⟨⟨vs,h1,jV hF (jG.refl _ _) [] vs y h2⟩,trivial⟩
 | t1::t2::ts,y,⟨vs,h1,h2⟩=>exact⟨⟨vs,h1,jV hF (jG.refl _ _) _ vs y h2⟩,trivial⟩
def DV (P:Program) (E:Env) (ρ:Nat->Res) (W w:World) (o:Oper) (a:Act) (k:K) (l:List (Nat × Res)):Prop :=
 ∀ (next:Act->World->Prop) (Q:Exit->Act->World->Prop),(∀ v w' E',Mem E' (after ρ l) W w'->Ext E ρ w E' (after ρ l) w'->k.wf (after ρ l)->k.holds E' (after ρ l) w' v->next (a.put o.dst v) w')->o.wp P a w next Q
theorem fU.steps {o:Oper} {a:Act} {k:K} {l:List (Nat × Res)} (h:fU P E ρ W w o a.eval k l):DV P E ρ W w o a k l:=by
 intro next Q hn
 obtain⟨nx,v,w',E',h1,h2,h3,h4,h5,h6⟩:=h
 unfold Oper.wp
 rw[h1]
 rcases h2 with rfl|⟨rfl,rfl⟩
 ·exact hn v w' E' h3 h4 h5 h6
 ·exact hn undef w' E' h3 h4 h5 h6
theorem nP {F F':Nat->Prop} {w:World}:(t:Ty)->t.free=true->(cs:List Value)->(x:t.den)->rep F w t cs x->rep F' w t cs x
 | .bool,_,_,_,h=>h
 | .int _,_,_,_,h=>h
 | .lf _,_,_,_,h=>h
 | .list _,hf,_,_,_=>by simp[Ty.free] at hf
 | .arr n t,hf,_,_,⟨h1,h2⟩=>⟨h1,bC (fun c y=>nP t (by simpa [Ty.free] using hf) c y) _ _ h2⟩
 | .pair a b,hf,_,_,⟨c1,c2,h1,h2,h3⟩=>by
  simp only[Ty.free,Bool.and_eq_true] at hf
  exact⟨c1,c2,h1,nP a hf.1 _ _ h2,nP b hf.2 _ _ h3⟩
 | .unit,_,_,_,h=>h
 | .ref _,hf,_,_,_=>by simp[Ty.free] at hf
 | .clo _ _,hf,_,_,_=>by simp[Ty.free] at hf
theorem a1t {F F':Nat->Prop} {w:World}:(ts:List Ty)->ts.all Ty.free=true->(vs:List Value)->(x:(nest ts).den)->jF F w ts vs x->jF F' w ts vs x
 | [],_,_,_,h=>h
 | t::ts,hf,_,x,⟨v,vs',h1,⟨cs,h2,h3⟩,h4⟩=>by
  simp only[List.all_cons,Bool.and_eq_true] at hf
  exact⟨v,vs',h1,⟨cs,h2,nP t hf.1 _ _ h3⟩,a1t ts hf.2 vs' x.2 h4⟩
theorem QO {F F':Nat->Prop} {w:World} {ts:List Ty} {v:Value} {y:(nest ts).den} (hf:ts.all Ty.free=true) (h:qK F w ts v y):qK F' w ts v y:=by
 match ts,y,h with
 | [t],y,h =>
  obtain⟨cs,h1,h2⟩:=h
  exact⟨cs,h1,nP t (by simpa using hf) _ _ h2⟩
 | [],y,⟨vs,h1,h2⟩=>exact⟨vs,h1,h2⟩
 | t1::t2::ts,y,⟨vs,h1,h2⟩=>exact⟨vs,h1,a1t _ hf vs y h2⟩
def BR (w:World) (q:Nat):Prop:=q<w.heap.size
theorem a7t {q:Nat} (h:fz w E q):BR w q:=h.1.1
theorem VP {F:Nat->Prop} {t:Option Ty} {k:K} {p:Part} {v:Value} (h:sU ρ t k=some p) (hM:Mem E ρ W w) (hw:k.wf ρ) (hk:k.holds E ρ w v) (hF:∀ q,fz w E q->F q) (ho:∀ r ver,k=.own r ver->∀ j g,E.has r j g->F g) (hm:∀ r ver i,k=.mrow r ver i->∀ g,E.has r (i+1) g->F g):iZ F w p.t v p.x:=by
 have hst:=jG.refl (fz w E) w
 cases k<;>try (simp[sU] at h;done)
 case val t x =>
  simp only[sU,Option.some.injEq] at h
  subst h
  exact gQ hF hst hk
 case nil =>
  cases t<;>simp only[sU] at h<;>first|(cases h;done)|skip
  rename_i t
  cases t<;>simp only[Option.some.injEq] at h<;>first|(cases h;done)|skip
  subst h
  exact⟨[.slice none 0 0],hk,none,0,rfl,by simp,by omega,.inl rfl⟩
 case own r ver =>
  simp only[sU] at h
  have h1:=hM.res r
  split at h<;>first|(cases h;done)|skip
  all_goals
   rename_i hr
   split at h<;>first|(cases h;done)|skip
   rename_i hv0
   simp only[Option.some.injEq] at h
   subst h
   have hv:v=E.sl r:=hk (by rw[hr];exact hv0.symm)
   rw[hr] at h1
   rw[hv]
  ·obtain⟨k1,k2,cs,k3,k4,k5⟩:=h1
   exact mQ (E:=E) k3 (bC (fun c y=>dA hF hst _ c y) _ _ k4) (fun g hg=>ho r ver rfl 0 g (k1.trans hg))
  ·exact gQ hF hst h1.2
  ·rename_i e e2 t ids xss v9
   obtain⟨k1,k2,⟨cs,k3,k4,k5⟩,k6,k7,k8⟩:=h1
   have hrow:∀ i,i<xss.length->rep (F) w (.list t) [E.inn r i] (rowAt xss i):=fun i hi=>by
    obtain⟨ds,q1,q2,q3⟩:=k8 i (rowAt xss i) (getD_at _ _ _ hi)
    obtain⟨cs9,e9,r9⟩:=mQ (E:=E) (F:=F) q1 (bC (fun c y=>dA hF hst t c y) _ _ q2) (fun g hg=>ho r ver rfl (i+1) g hg)
    have r8:=r9
    obtain⟨p9,c9,e8,_⟩:=r9
    have e7:cs9=[E.inn r i]:=by
     have:E.inn r i=cs9.headD undef:=e9
     rw[this,e8];rfl
    rw[<-e7];exact r8
   have key:∀ (l:List Nat),(∀ i ∈ l,i<xss.length)->chunks (rep (F) w (.list t)) (l.map (E.inn r)) (l.map (rowAt xss)):=by
    intro l
    induction l with
    | nil=>intro _;rfl
    | cons i l ih=>intro hl;exact⟨[E.inn r i],_,rfl,hrow i (hl i (List.mem_cons_self ..)),ih (fun j hj=>hl j (List.mem_cons_of_mem _ hj))⟩
   have hval:rowsOf ids xss=(dW ids xss).map (rowAt xss):=by
    cases ids with
    | some l=>rfl
    | none =>
     simp only[dW,rowsOf]
     apply List.ext_getElem?
     intro i
     rw[List.getElem?_map]
     by_cases hi:i<xss.length
     ·rw[List.getElem?_range hi];exact getD_at _ _ _ hi
     ·rw[List.getElem?_eq_none (by omega),List.getElem?_eq_none (by simpa using hi)];rfl
   show iZ (F) w (.list (.list t)) (E.sl r) (rowsOf ids xss)
   rw[hval]
   refine mQ (E:=E) (t:=.list t) (e:=e) (cs:=cs) ?_ (by rw[k4];exact key _ k6) (fun g hg=>ho r ver rfl 0 g (k1.trans hg))
   have e9:(dW ids xss).length=List.length (α:=(Ty.list t).den) ((dW ids xss).map (rowAt xss)):=(List.length_map ..).symm
   exact e9 ▸ k3
 case mrow r ver i =>
  simp only[sU] at h
  split at h<;>first|(cases h;done)|skip
  rename_i hr
  split at h<;>first|(cases h;done)|skip
  rename_i hv
  subst hv
  simp only[Option.some.injEq] at h
  subst h
  have hv:v=E.inn r i:=hk (by rw[hr];rfl)
  have hi:=hw.2 (by rw[hr];rfl)
  rw[hr] at hi
  obtain⟨cs,q1,q2,q3⟩:=pY hM hr hi
  rw[hv]
  exact mQ (E:=E) q1 (bC (fun c y=>dA hF hst _ c y) _ _ q2) (fun g hg=>hm r ver i rfl g hg)
theorem a1B {t:Option Ty} {k:K} {p:Part} {v:Value} (h:sU ρ t k=some p) (hM:Mem E ρ W w) (hw:k.wf ρ) (hk:k.holds E ρ w v):iZ (BR w) w p.t v p.x:=VP h hM hw hk (fun q h=>a7t h) (fun r _ _ j g hg=>hM.lt hg) (fun r _ i _ g hg=>hM.lt hg)
theorem a1A {t:Option Ty} {k:K} {p:Part} {v:Value} (h:CB ρ t k=some p) (hM:Mem E ρ W w) (hw:k.wf ρ) (hk:k.holds E ρ w v):iZ (BR w) w p.t v p.x:=by
 have hF:∀ q,fz w E q->BR w q:=fun q h=>a7t h
 cases k
 case ptr r o =>
  simp only[CB] at h
  split at h<;>first|(cases h;done)|skip
  rename_i ps hr
  unfold b1r at h
  split at h<;>first|(cases h;done)|skip
  rename_i u a qs hd
  simp only[Option.map_eq_some_iff] at h
  obtain⟨⟨p1,p2⟩,h1,rfl⟩:=h
  have h2:=hM.res r
  rw[hr] at h2
  obtain⟨b,cs,e,k1,k3,k4⟩:=h2
  obtain⟨b',g1,g2⟩:=hk
  rw[g1] at k1;cases k1
  obtain⟨rfl,e2⟩:=rX ps o _ _ hd
  obtain⟨c1,c2,rfl,n1,n2⟩:=nD k4
  obtain⟨c3,c4,rfl,n3,n4⟩:=rG u _ _ _ _ h1 n2
  have hl:=pK n1
  refine⟨[v],rfl,b,o,c3,by rw[g2],hM.lt (r:=r) (j:=0) g1,fun j x hx=>?_,dA hF (jG.refl _ _) _ _ _ n3.1⟩
  rw[cell_of_row _ _ _ _ _ _ k3]
  simp only[List.getElem?_toArray]
  rw[List.getElem?_append_right (by omega),hl,e2,Nat.add_sub_cancel_left,List.getElem?_append_left (by have:=(List.getElem?_eq_some_iff.1 hx).1;exact this)]
  exact hx
 case lJ r =>
  simp only[CB] at h
  split at h<;>first|(cases h;done)|skip
  rename_i k9 hr
  split at h<;>first|(cases h;done)|skip
  rename_i u
  simp only[Option.map_eq_some_iff] at h
  obtain⟨p1,h1,rfl⟩:=h
  obtain⟨q1,q2,b,x,e,q3,q4,q5,q6⟩:=hM.kbx r k9 hr
  obtain⟨b',g1,g2⟩:=hk (by rw[hr];trivial)
  rw[g1] at q3;cases q3
  obtain⟨cs,h2,h3⟩:=a1B h1 hM q1 q6
  have hcs:cs=[x]:=by
   have hl:=dU _ _ _ h3
   have hc:=mY _ _ _ h3
   rw[<-h2] at hc
   obtain⟨_,hx⟩:=one_cell q2 q6 (fun r' ver e=>by
    rw[e] at h1
    simp only[sU] at h1
    split at h1<;>first|(cases h1;done)|skip
    all_goals
     rename_i hr9
     split at h1<;>first|(cases h1;done)|skip
     rename_i hv9
     rw[hr9];exact hv9.symm) hM
   rw[hx] at hc
   simpa using hc.symm
  subst hcs
  refine⟨[v],rfl,b,0,[x],by rw[g2],hM.lt (r:=r) (j:=0) g1,fun j u hu=>?_,h3⟩
  rw[Nat.zero_add,cell_of_row _ _ _ _ _ _ q4];simpa using hu
 all_goals exact a1B (by simpa only[CB] using h) hM hw hk
theorem KP:∀ {u:Ty} {ks:List K0} {p:Part} {vs:List Value},iM ρ u ks=some p->Mem E ρ W w->(∀ k ∈ ks,KZ ρ k)->mO (fz w E) E ρ w ks vs->rep (BR w) w p.t vs p.x
 | .unit,[],p,vs,h,hM,hw,hk=>by
  simp only[iM,Option.some.injEq] at h
  subst h
  exact hk
 | .pair a b,k::ks,p,vs,h,hM,hw,⟨v,vs',e1,e2,e3⟩=>by
  simp only[iM] at h
  split at h<;>first|(cases h;done)|skip
  rename_i p1 q1 h1 h2
  split at h<;>first|(cases h;done)|skip
  rename_i hag
  simp only[Option.some.injEq] at h
  subst h
  have ih:=KP h2 hM (fun k hk=>hw k (List.mem_cons_of_mem _ hk)) e3
  obtain⟨cs,h3,h4⟩:=a1A h1 hM (XH.1 (hw k (List.mem_cons_self ..))) (AV.1 e2)
  have hag:p1.t.agg=false:=by simpa using hag
  have hl:=dU _ _ _ h4
  have hn:p1.t.n=1:=by
   obtain⟨pt,px⟩:=p1
   cases pt<;>simp_all [Ty.agg,Ty.n]
   rename_i l;cases l<;>simp_all [Lf.agg,Lf.n]
  rw[hn] at hl
  match cs,hl with
  | [x],_ =>
   have:v=x:=by rw[h3];unfold Ty.toV;rw[hag];rfl
   subst this
   exact⟨[v],vs',e1,h4,ih⟩
 | .unit,_::_,p,vs,h,_,_,_=>by simp[iM] at h
 | .pair _ _,[],p,vs,h,_,_,_=>by simp[iM] at h
 | .bool,_,p,vs,h,_,_,_=>by simp[iM] at h
 | .int _,_,p,vs,h,_,_,_=>by simp[iM] at h
 | .lf _,_,p,vs,h,_,_,_=>by simp[iM] at h
 | .list _,_,p,vs,h,_,_,_=>by simp[iM] at h
 | .arr _ _,_,p,vs,h,_,_,_=>by simp[iM] at h
 | .ref _,_,p,vs,h,_,_,_=>by simp[iM] at h
 | .clo _ _,_,p,vs,h,_,_,_=>by simp[iM] at h
theorem a9o {t:Ty} {k:K} {p:Part} {v:Value} (h:RU ρ t k=some p) (hM:Mem E ρ W w) (hw:k.wf ρ) (hk:k.holds E ρ w v):iZ (BR w) w p.t v p.x:=by
 cases k
 case fn g ks =>
  simp only[RU] at h
  split at h<;>first|(cases h;done)|skip
  simp only[Option.map_eq_some_iff] at h
  obtain⟨p1,h1,rfl⟩:=h
  obtain⟨vs,rfl,h2⟩:=hk
  exact⟨[.func (.func g) #[] vs.toArray],rfl,vs,rfl,KP h1 hM hw h2⟩
 all_goals exact a1A (by simpa only[RU] using h) hM hw hk
theorem zQ:∀ {ts:List Ty} {ks:List K} {vc:List Prop} {x:(nest ts).den} {vs:List Value},lZ ρ ts ks=some (vc,x)->dZ vc->Mem E ρ W w->(∀ k ∈ ks,k.wf ρ)->kN (fun k v=>K.holds E ρ w k v) ks vs->jF (BR w) w ts vs x
 | [],[],vc,x,vs,h,hv,hM,hw,hk=>by cases hk;rfl
 | [],_::_,vc,x,vs,h,hv,hM,hw,hk=>by simp[lZ] at h
 | _::_,[],vc,x,vs,h,hv,hM,hw,hk=>by simp[lZ] at h
 | t::ts,k::ks,vc,x,vs,h,hv,hM,hw,hk=>by
  simp only[lZ] at h
  split at h<;>first|(cases h;done)|skip
  rename_i p h1
  split at h<;>first|(cases h;done)|skip
  rename_i q vc2 x2 hq h2
  simp only[Option.some.injEq,Prod.mk.injEq] at h
  obtain⟨rfl,rfl⟩:=h
  cases hk
  rename_i v vs hv1 hvs
  obtain⟨hva,hvb⟩:=bI.1 hv
  obtain⟨cs,rfl,hr⟩:=a9o h1 hM (hw k (List.mem_cons_self ..)) hv1
  exact⟨_,vs,rfl,⟨cs,by unfold Ty.toV;rw[yE _ _ _ hq],zW _ _ _ hq cs _ hr hva⟩,zQ h2 hvb hM (fun k hk=>hw k (List.mem_cons_of_mem _ hk)) hvs⟩
theorem a7d {cs:List Ctr} {g:FuncId} (hC:∀ c ∈ cs,dG P g c) {ks:List K} {vs:List Value} {vc:List Prop} {kk:K} {l:List (Nat × Res)} (h:BO ρ ks cs=some (vc,kk,l)) (hv:dZ vc) (hM:Mem E ρ W w) (hw:∀ k ∈ ks,k.wf ρ) (hk:kN (fun k v=>K.holds E ρ w k v) ks vs)
  {Q:Ending->World->Prop} (hq:∀ v w' E',Mem E' (after ρ l) W w'->Ext E ρ w E' (after ρ l) w'->kk.wf (after ρ l)->kk.holds E' (after ρ l) w' v->Q (.returned v) w'):Calls P g vs.toArray w Q:=by
 induction cs with
 | nil=>simp[BO] at h
 | cons c cs ih =>
  simp only[BO] at h
  split at h
  ·rename_i a ha
   simp only[Option.some.injEq] at h
   obtain⟨vc1,x,l1⟩:=a
   simp only[b0W,Prod.mk.injEq] at h
   obtain⟨rfl,rfl,rfl⟩:=h
   obtain⟨hv1,hpre,_⟩:=bI.1 hv
   unfold ZC at ha
   rcases zA ha with hb|ha
   ·split at hb<;>first|(cases hb;done)|skip
    rename_i hf
    simp only[Option.map_eq_some_iff] at hb
    obtain⟨⟨vc2,x2⟩,hb9,e9⟩:=hb
    simp only[a4Q,Prod.mk.injEq] at e9
    obtain⟨rfl,rfl,rfl⟩:=e9
    refine(hC c (List.mem_cons_self ..) (BR w) w _ x2 (fun q hq=>hq) (zQ hb9 hv1 hM hw hk) hpre).mono ?_
    rintro e w' ⟨v,rfl,hr,hb⟩
    obtain⟨n1,n2⟩:=hM.grows hb
    obtain⟨r1,r2⟩:=MB (E:=E) (ρ:=ρ) (w:=w') (F:=fz w' E) (fun q hq=>hq) (QO hf hr)
    exact hq v w' E n1 n2 r2 r1
   ·obtain⟨E1,m1,m2,m3⟩:=MR ha hv1 hM hw hk
    refine(hC c (List.mem_cons_self ..) (fz w E1) w _ x (fun q hq=>hq.1.1) m3 hpre).mono ?_
    rintro e w' ⟨v,rfl,hr,hb⟩
    obtain⟨n1,n2⟩:=m1.grows hb
    obtain⟨r1,r2⟩:=MB (E:=E1) (ρ:=after ρ l1) (w:=w') (fun q hq=>yL hq.2 (hq.1.elim (fun h=>h.1.2) (fun h=>m1.base q (.inr (Nat.le_trans m1.below.size h)))) (fun r j e=>by
     rcases hq.1 with h|h
     ·exact qJ h r j e
     ·have:=m1.lt e;omega)) hr
    exact hq v w' E1 n1 (m2.trans n2) r2 r1
  ·exact ih (fun c hc=>hC c (List.mem_cons_of_mem _ hc)) h
theorem ZO:∀ {ks:List K} {l:List K0} {vs:List Value},BQ ks=some l->(∀ k ∈ ks,k.wf ρ)->kN (fun k v=>K.holds E ρ w k v) ks vs->mO (fz w E) E ρ w l vs/\∀ k ∈ l,KZ ρ k
 | [],l,vs,h,hw,hk=>by
  simp only[BQ,Option.some.injEq] at h
  subst h
  cases hk
  exact⟨rfl,fun k hk=>by cases hk⟩
 | k::ks,l,vs,h,hw,hk=>by
  cases hk
  rename_i v vs hv hvs
  have step:∀ k0 l',k0K k0=k->BQ ks=some l'->l=k0::l'->mO (fz w E) E ρ w l (v::vs)/\∀ k ∈ l,KZ ρ k:=fun k0 l' e1 e2 e3=>by
   obtain⟨i1,i2⟩:=ZO e2 (fun k hk=>hw k (List.mem_cons_of_mem _ hk)) hvs
   subst e3
   refine⟨⟨v,vs,rfl,AV.2 (by rw[e1];exact hv),i1⟩,fun k' hk'=>?_⟩
   rcases List.mem_cons.1 hk' with rfl|hk'
   ·exact XH.2 (by rw[e1];exact hw k (List.mem_cons_self ..))
   ·exact i2 k' hk'
  cases k<;>try (simp[BQ] at h;done)
  ·simp only[BQ] at h
   split at h<;>first|(cases h;done)|skip
   simp only[Option.map_eq_some_iff] at h
   obtain⟨l',h1,h2⟩:=h
   exact step _ l' rfl h1 h2.symm
  all_goals
   simp only[BQ,Option.map_eq_some_iff] at h
   obtain⟨l',h1,h2⟩:=h
   exact step _ l' rfl h1 h2.symm
theorem a4r:∀ {l:List K0} {ds:List Value},mO (fz w E) E ρ w l ds->kN (fun k v=>K.holds E ρ w k v) (l.map k0K) ds
 | [],ds,h=>by rw[show ds=[] from h];exact .nil
 | k::l,ds,⟨v,vs',e1,e2,e3⟩=>by rw[e1];exact .cons (AV.1 e2) (a4r e3)
theorem a5a {C:FuncId->List Ctr} (hC:∀ g,∀ c ∈ C g,dG P g c) {k:Operand->K} {a:Act} {o:Oper} {vc:List Prop} {kk:K} {l:List (Nat × Res)} (h:uK P C ρ k o.op=some (vc,kk,l)) (hv:dZ vc) (hM:Mem E ρ W w) (hw:∀ x,(k x).wf ρ) (hk:∀ x,(k x).holds E ρ w (a.eval x)):DV P E ρ W w o a kk l:=by
 cases ho:o.op<;>rw[ho] at h<;>try (simp[uK] at h;done)
 case makeFunc fn first caps =>
  cases fn<;>try (simp[uK] at h;done)
  rename_i g
  simp only[uK] at h
  split at h<;>first|(cases h;done)|skip
  rename_i hf
  have hf:first=#[]:=by simpa using hf
  subst hf
  have ha:kN (fun k v=>K.holds E ρ w k v) (caps.toList.map k) (caps.toList.map a.eval):=by
   generalize caps.toList=cl
   induction cl with
   | nil=>exact .nil
   | cons x xs ih=>exact .cons (hk x) ih
  have harr:caps.map a.eval=(caps.toList.map a.eval).toArray:=by apply Array.ext';simp
  split at h
  ·rename_i p h1
   simp only[Option.some.injEq,Prod.mk.injEq] at h
   obtain⟨_,rfl,rfl⟩:=h
   have hr:=a3J h1 ha
   refine fU.steps (fU.of (s:=Instr.makeFunc (.func g) ((#[]:Array Operand).map a.eval) (caps.map a.eval)) (by simp only[execOp,ho]) ⟨.func (.func g) #[] (caps.map a.eval),w,E,by simp[Instr.makeFunc],hM,Ext.refl _ _ _,trivial,[.func (.func g) #[] (caps.map a.eval)],rfl,caps.toList.map a.eval,by rw[harr],hr⟩)
  ·simp only[Option.map_eq_some_iff,Prod.mk.injEq] at h
   obtain⟨l0,h1,_,rfl,rfl⟩:=h
   obtain⟨r1,r2⟩:=ZO h1 (fun k9 hk9=>by obtain⟨q,_,rfl⟩:=List.mem_map.1 hk9;exact hw q) ha
   exact fU.steps (fU.of (s:=Instr.makeFunc (.func g) ((#[]:Array Operand).map a.eval) (caps.map a.eval)) (by simp only[execOp,ho]) ⟨.func (.func g) #[] (caps.map a.eval),w,E,by simp[Instr.makeFunc],hM,Ext.refl _ _ _,r2,caps.toList.map a.eval,by rw[harr],r1⟩)
 case call c =>
  obtain⟨cl,xs,ts⟩:=c
  cases cl<;>try (simp[uK] at h;done)
  rename_i f
  simp only[uK] at h
  have a2j:=hk f
  have b6L:=hw f
  have key:∀ {g:FuncId} {ks:List K} {ds:List Value},a.eval f=.func (.func g) #[] ds.toArray->GZ P g=true->BO ρ (xs.toList.map k++ks) (C g)=some (vc,kk,l)->(∀ k ∈ ks,k.wf ρ)->kN (fun k v=>K.holds E ρ w k v) ks ds->DV P E ρ W w o a kk l:=by
   intro g ks ds hfv he hcl hws hks
   have ha:kN (fun k v=>K.holds E ρ w k v) (xs.toList.map k++ks) (xs.toList.map a.eval++ds):=by
    generalize xs.toList=cl
    induction cl with
    | nil=>exact hks
    | cons x xs ih=>exact .cons (hk x) ih
   intro next Q hn
   have hrun:(execOp a.eval o).run P w=.ok (.enter g ((xs.toList.map a.eval++ds).toArray)) w:=by
    have:(xs.map a.eval++ds.toArray)=(xs.toList.map a.eval++ds).toArray:=by apply Array.ext';simp
    simp only[execOp,ho,resolve,Deferred.ofValue,hfv,Sem.run_bind,Sem.run_pure,Result.andThen_ok,invoke]
    rw[<-this]
    simp only[Array.empty_append]
    exact TP he
   unfold Oper.wp
   rw[hrun,Oper.upon_enter]
   refine(a7d (fun c hc=>hC g c hc) hcl hv hM (fun k9 hk9=>?_) ha (Q:=fun e w'=>∃ v,e=.returned v/\next (a.put o.dst v) w') (fun v w' E' m1 m2 m3 m4=>⟨v,rfl,hn v w' E' m1 m2 m3 m4⟩)).mono ?_
   ·rcases List.mem_append.1 hk9 with hk9|hk9
    ·obtain⟨q,_,rfl⟩:=List.mem_map.1 hk9;exact hw q
    ·exact hws k9 hk9
   ·rintro e w' ⟨v,rfl,h⟩
    exact h
  split at h<;>first|(cases h;done)|skip
  ·rename_i g t cx hkf
   split at h<;>first|(cases h;done)|skip
   rename_i he
   simp only[Bool.and_eq_true] at he
   rw[hkf] at a2j
   obtain⟨cs,hfv,ds,hcs,hrep⟩:=a2j
   have hfv:a.eval f=.func (.func g) #[] ds.toArray:=by rw[hfv,hcs];rfl
   obtain⟨c1,c2⟩:=WO (E:=E) (ρ:=ρ) t cx ds he.2 hrep (fun q h=>h)
   exact key hfv he.1 h c2 c1
  ·rename_i g l0 hkf
   split at h<;>first|(cases h;done)|skip
   rename_i he
   rw[hkf] at a2j b6L
   obtain⟨ds,hfv,hrep⟩:=a2j
   exact key hfv he h (fun k9 hk9=>by
    obtain⟨q,hq,rfl⟩:=List.mem_map.1 hk9
    exact XH.1 (b6L q hq)) (a4r hrep)
end
end Go.Proofs.YtidfgdchcpmnfaaGreat
