/-
  Lemmas for the theorem vnulls_holds, part 15 of 36.
-/
import Derived.Test.YtgplhbhfdgempaaGreatNu14
namespace Go.Proofs.YtgplhbhfdgempaaGreat
open Go Go.RowKit
section
set_option linter.unusedSimpArgs false
set_option linter.unusedVariables false
def zQ (ids:Option (List Nat)) (n:Nat):Option (List Nat):=match ids with
 | none=>none
 | some l=>some (l++[n])
def XU (r r2 v v2:Nat) (e e2:TypeId) (ty:Ty) (ids:Option (List Nat)) (xss:List (List ty.den)) (zs:List ty.den):MK:=some ([aH ids xss+1<=1000000000],.own r (nx v),[(r,.mat e e2 ty (zQ ids xss.length) (xss++[zs]) (nx v)),(r2,.row e2 ty [] (nx v2))])
def RZ (P:Program) (T:Told) (ρ:Nat->Res) (k:Operand->K) (d:Option Nat):Op->MK
 | .buildSlice t len parts=>match d with
  | some r=>match T.mt r with
   | some ty=>match sliceB P t (.list ty) 0 with
    | some e=>match sliceB P e ty 0 with
     | some e2=>match len,parts.toList with
      | 0,[]=>if (ρ r).isNone&&ty.still then some ([],.own r 0,[(r,.mat e e2 ty none [] 0)]) else none
      | 1,[(0,y)]=>match k y with
       | .own r2 v2=>match ρ r2 with
        | .row _ _ _ v2'=>if gv v2==gv v2'&&sliceB P t (.list ty) 1==some e then some ([],.sng r2 v2,[]) else none
        | _=>none
       | _=>none
      | _,_=>none
     | none=>none
    | none=>none
   | none=>none
  | none=>none
 | .call { callee:=.builtin .append,args:=xs,argTypes:=ts }=>match xs.toList,ts.toList with
  | [s,x],[t,t']=>if t=t' then (match k x with
   | .sng r2 v2=>match ρ r2 with
    | .row e2' ty' ys v2'=>match k s,d with
     | .own r v,_=>match ρ r with
      | .mat e e2 ty ids xss v'=>match jT (.list ty') (.list ty) ys with
       | some zs=>if r2 != r&&gv v==gv v'&&gv v2==gv v2'&&e2'==e2&&sliceB P t (.list ty) 0==some e&&NM P e&&a2x P e 1 then XU r r2 v' v2' e e2 ty ids xss zs else none
       | none=>none
      | _=>none
     | .nil,some r=>match sliceB P t (.list ty') 0 with
      | some e=>if r2 != r&&gv v2==gv v2'&&(ρ r).isNone&&NM P e&&a2x P e 1 then XU r r2 0 v2' e e2' ty' none [] ys else none
      | none=>none
     | _,_=>none
    | _=>none
   | _=>none) else none
  | _,_=>none
 | _=>none
section
variable {P:Program} {E:Env} {ρ:Nat->Res} {W w:World}
theorem KJ {α:Type} (ids:Option (List Nat)) (xss:List α) (y:α):aW (zQ ids xss.length) (xss++[y])=aW ids xss++[xss.length]:=by
 cases ids with
 | none=>simp[zQ,aW,List.range_succ]
 | some l=>rfl
theorem a4R {e e2 t:TypeId} {ty:Ty} {ids:Option (List Nat)} {xss:List (List ty.den)} {ys:List ty.den} {r r2 v v2 b:Nat} {s:Value} {cs0:List Value} {T0:TypeId} (hM:Mem E ρ W w)
  (hb:sliceB P t (.list ty) 0=some e) (hfew:NM P e=true) (hz:a2x P e 1=true) (hne:r2≠r)
  (hr2:ρ r2=.row e2 ty ys v2) (hrv:ρ r=.none\/ρ r=.mat e e2 ty ids xss v)
  (k1:E.blk r=bV s) (k3:w.ownsRow 0 e 1 s (aW ids xss).length cs0) (k4:cs0=(aW ids xss).map (E.inn r)) (k5:CAv dJ w s) (k6:∀ i ∈ aW ids xss,i<xss.length) (k7:∀ i,xss.length<=i->bV (E.inn r i)=none)
  (k8:∀ i xs,xss[i]?=some xs->∃ cs,w.ownsRow 0 e2 ty.n (E.inn r i) xs.length cs/\chunks (rep (fz w E) w ty) cs xs/\CAv dJ w (E.inn r i))
  (hbF:fz w E b) (hbr:w.rangeAt b 0 [E.sl r2]) (hlen:aH ids xss+1<=1000000000) :
  ∃ s' w' E',(Builtin.append_ #[t,t] T0 #[s,.slice (some ⟨b,0,none⟩) 1 1]).run P w=.ok s' w'/\Mem E' (bW (bW ρ r (.mat e e2 ty (zQ ids xss.length) (xss++[ys]) (nx v))) r2 (.row e2 ty [] (nx v2))) W w'/\Ext E ρ w E' (bW (bW ρ r (.mat e e2 ty (zQ ids xss.length) (xss++[ys]) (nx v))) r2 (.row e2 ty [] (nx v2))) w'/\s'=E'.sl r:=by
 obtain⟨h1,h2,h3,h4,i,z,h5,h6,h7⟩:=nO hb
 have h7:i.size=1:=h7
 have hzk:(∀ u ∈ z.cells.toList,dJ u=true)/\z.cells.size=1:=by
  unfold a2x at hz
  rw[h5] at hz
  simp only[h6,Bool.and_eq_true,List.all_eq_true,beq_iff_eq] at hz
  exact hz
 have a8q:i.bytes<=100000:=by
  unfold NM at hfew
  rw[h5] at hfew
  simpa using hfew
 rw[<-zF] at hlen
 have q2:=hM.res r2
 rw[hr2] at q2
 obtain⟨p1,p2,cs2,p3,p4,p5⟩:=q2
 obtain⟨sp,sc,hsl2⟩:=pX p3
 have hok2:dJ (E.sl r2)=true:=by rw[hsl2];exact IZ
 have hbytes:((aW ids xss).length+1)*i.bytes<=140737488355328:=by
  have h9:((aW ids xss).length+1)*i.bytes<=1000000000*100000:=Nat.mul_le_mul hlen a8q
  omega
 obtain⟨g,cap',w',hrun,a1,a2,a3,a4⟩:=DT (P:=P) (p:=dJ) w 0 t T0 e i z 1 i.bytes h1 h5 h6 h7 rfl hzk.2 (by omega) hzk.1 s (aW ids xss).length cs0 k3 k5 ⟨b,0,none⟩ 1 1 [E.sl r2] rfl (fun j u hu=>by
   have:=hbr j u hu
   rw[Addr.add_mid];exact this) (fun u hu=>by
   rw[List.mem_singleton.1 hu]
   simp only[dJ,Bool.and_eq_true] at hok2;exact hok2.1) (fun u hu=>by rw[List.mem_singleton.1 hu];exact hok2) (by omega) (by simp only[maxLen];omega) hbytes (Nat.zero_le _)
 have hcnt:(ρ r).cnt<=xss.length:=by
  rcases hrv with h|h
  ·rw[h];exact Nat.zero_le _
  ·rw[h];exact Nat.le_refl _
 have hgo:kQ E w w' (fun q=>q=r\/q=r2):=⟨a2.os,a2.tape,a2.output,a2.size,fun q hq hn=>a2.block q hq (fun e9=>hn r 0 (.inl rfl) (by show E.blk r=some q;rw[k1,pF,<-e9])),fun q o' n hc=>by
  by_cases e9:s.ownBlock=some q
  ·have:=k5 q e9 _ _ hc
   simp[dJ,bF] at this
  ·rw[<-hc]
   exact World.cell?_of_block (w:=w) (a2.block q (cell_lt hc) (fun e8=>e9 e8.symm))⟩
 have hg:E.has r 0 g\/w.heap.size<=g:=by
  rcases a4 with h|h
  ·exact .inl (by show E.blk r=some g;rw[k1,pF];exact h)
  ·exact .inr (by omega)
 let s':Value:=.slice (some ⟨g,0,none⟩) ((aW ids xss).length+1) cap'
 let E':Env:=(E.vK r (some g) s' (bW (E.inn r) xss.length (E.sl r2))).put r2 none (.slice none 0 0)
 let ρ':=bW (bW ρ r (.mat e e2 ty (zQ ids xss.length) (xss++[ys]) (nx v))) r2 (.row e2 ty [] (nx v2))
 have hnr:r≠r2:=fun e=>hne e.symm
 have a1a:E'.blk r=some g:=by show bW (bW E.blk r _) r2 _ r=_;rw[aP _ _ hnr,aG]
 have YO:E'.sl r=s':=by show bW (bW E.sl r _) r2 _ r=_;rw[aP _ _ hnr,aG]
 have yJ:E'.inn r=bW (E.inn r) xss.length (E.sl r2):=by show bW (bW E.inn r _) r2 _ r=_;rw[aP _ _ hnr,aG]
 have a0:E'.blk r2=none:=aG _ _ _
 have QX:E'.sl r2=.slice none 0 0:=aG _ _ _
 have b0:E'.inn r2=fun _=>undef:=aG _ _ _
 have hE:∀ q,¬ (q=r\/q=r2)->E'.blk q=E.blk q/\E'.sl q=E.sl q/\E'.inn q=E.inn q/\ρ' q=ρ q:=fun q hq=>by
  have n1:q≠r:=fun e=>hq (.inl e)
  have n2:q≠r2:=fun e=>hq (.inr e)
  exact⟨(aP _ _ n2).trans (aP _ _ n1),(aP _ _ n2).trans (aP _ _ n1),(aP _ _ n2).trans (aP _ _ n1),(aP _ _ n2).trans (aP _ _ n1)⟩
 have YR:∀ j b,¬ E'.has r2 j b:=fun j b hh=>by
  cases j with
  | zero=>have hh:E'.blk r2=some b:=hh;rw[a0] at hh;cases hh
  | succ j=>have hh:bV (E'.inn r2 j)=some b:=hh;rw[b0] at hh;cases hh
 have hmap:∀ j b,E'.has r j b->(j=0/\b=g)\/(j=xss.length+1/\E.has r2 0 b)\/(j≠0/\j≠xss.length+1/\E.has r j b):=fun j b hh=>by
  cases j with
  | zero=>have hh:E'.blk r=some b:=hh;rw[a1a] at hh;cases hh;exact .inl ⟨rfl,rfl⟩
  | succ j =>
   have hh:bV (E'.inn r j)=some b:=hh
   rw[yJ] at hh
   by_cases ej:j=xss.length
   ·subst ej
    rw[aG] at hh
    exact .inr (.inl ⟨rfl,p1.trans hh⟩)
   ·rw[aP _ _ ej] at hh
    exact .inr (.inr ⟨by omega,by omega,hh⟩)
 have hF:∀ q,fz w E q->fz w' E' q:=vU (S:=fun q=>q=r\/q=r2) hgo.size rfl (fun q hq=>⟨(hE q hq).1,(hE q hq).2.2.1⟩) (fun r' j q e hh=>by
  rcases e with rfl|rfl
  ·rcases hmap j q hh with⟨_,rfl⟩|⟨_,h⟩|⟨_,_,h⟩
   ·exact hg.imp (fun h=>⟨_,_,h⟩) id
   ·exact .inl ⟨_,_,h⟩
   ·exact .inl ⟨_,_,h⟩
  ·exact(YR j q hh).elim)
 have hnb:∀ r' j q,E.has r' j q->(r'≠r\/j≠0)->w'.heap[q]?=w.heap[q]?:=fun r' j q hh hj=>a2.block q (hM.lt hh) (fun e9=>by
  have h0:E.has r 0 q:=by show E.blk r=some q;rw[k1,pF,<-e9]
  have:=hM.inj _ _ _ _ _ hh h0
  rcases hj with hj|hj
  ·exact hj this.1
  ·exact hj this.2)
 have KI:ρ' r=.mat e e2 ty (zQ ids xss.length) (xss++[ys]) (nx v):=(aP _ _ hnr).trans (aG _ _ _)
 have zO:ρ' r2=.row e2 ty [] (nx v2):=aG _ _ _
 have hx:mG E' w' r (.mat e e2 ty (zQ ids xss.length) (xss++[ys]) (nx v)):=by
  refine⟨by rw[YO,a1a];rfl,p2,⟨cs0++[E.sl r2],?_,?_,by rw[YO];intro g' hg';cases hg';exact a3⟩,fun x hx=>?_,fun j hj=>?_,fun j zs hj=>?_⟩
  ·rw[YO,KJ,List.length_append];exact a1
  ·rw[yJ,k4,KJ,List.map_append,List.map_cons,List.map_nil,aG]
   congr 1
   refine List.map_congr_left (fun x hx=>?_)
   have:=k6 x hx
   rw[aP _ _ (by omega)]
  ·rw[KJ] at hx
   rw[List.length_append]
   rcases List.mem_append.1 hx with hx|hx
   ·have:=k6 x hx;simp;omega
   ·rw[List.mem_singleton.1 hx];simp
  ·rw[List.length_append,List.length_singleton] at hj
   rw[yJ,aP _ _ (by omega)]
   exact k7 j (by omega)
  ·rw[yJ]
   by_cases ej:j=xss.length
   ·subst ej
    rw[List.getElem?_append_right (Nat.le_refl _),Nat.sub_self] at hj
    cases hj
    rw[aG]
    have hb1:∀ b,bV (E.sl r2)=some b->w'.heap[b]?=w.heap[b]?:=fun b hb=>hnb r2 0 b (p1.trans hb) (.inl hne)
    exact⟨cs2,fM p3 hb1,aZ (fun c y=>dL hF hgo.stay ty c y) _ _ p4,kT p5 hb1⟩
   ·have hj2:xss[j]?=some zs:=by
     by_cases hjl:j<xss.length
     ·rwa [List.getElem?_append_left hjl] at hj
     ·rw[List.getElem?_eq_none (by rw[List.length_append,List.length_singleton];omega)] at hj;cases hj
    rw[aP _ _ ej]
    obtain⟨cs9,r1,r2,r3⟩:=k8 j zs hj2
    have hb1:∀ b,bV (E.inn r j)=some b->w'.heap[b]?=w.heap[b]?:=fun b hb=>hnb r (j+1) b hb (.inr (by omega))
    exact⟨cs9,fM r1 hb1,aZ (fun c y=>dL hF hgo.stay ty c y) _ _ r2,kT r3 hb1⟩
 have hx2:mG E' w' r2 (.row e2 ty [] (nx v2)):=⟨by rw[a0,QX];rfl,p2,[],by rw[QX];exact World.ownsRow_nil _ _ _ _,rfl,by rw[QX];intro g hg;cases hg⟩
 have hgl:∀ j b,j≠0->E.has r j b->b≠g:=fun j b hj hh e9=>by
  subst e9
  rcases hg with h|h
  ·exact hj (hM.inj _ _ _ _ _ hh h).2
  ·have:=hM.lt hh;omega
 have b9i:∀ b,E.has r2 0 b->b≠g:=fun b hh e9=>by
  subst e9
  rcases hg with h|h
  ·exact hne (hM.inj _ _ _ _ _ hh h).1
  ·have:=hM.lt hh;omega
 obtain⟨m1,m2⟩:=hM.turns (E':=E') (ρ':=ρ') (w':=w') (fun q=>q=r\/q=r2) hgo hE rfl rfl rfl (fun r' j b e hh=>by
   rcases e with rfl|rfl
   ·rcases hmap j b hh with⟨_,rfl⟩|⟨_,h⟩|⟨_,_,h⟩
    ·exact hg.imp (fun h=>⟨_,_,.inl rfl,h⟩) id
    ·exact .inl ⟨_,_,.inr rfl,h⟩
    ·exact .inl ⟨_,_,.inl rfl,h⟩
   ·exact(YR j b hh).elim) (fun r' j r'' j' b e' e'' hh hh'=>by
   rcases e' with rfl|rfl
   ·rcases e'' with rfl|rfl
    ·refine⟨rfl,?_⟩
     rcases hmap j b hh with⟨q1,q2⟩|⟨q1,q2⟩|⟨q1,q0,q2⟩<;>rcases hmap j' b hh' with⟨q3,q4⟩|⟨q3,q4⟩|⟨q3,q5,q4⟩
     ·omega
     ·exact absurd q2 (b9i _ q4)
     ·exact absurd q2 (hgl _ _ q3 q4)
     ·exact absurd q4 (b9i _ q2)
     ·omega
     ·exact absurd (hM.inj _ _ _ _ _ q2 q4).1 hne
     ·exact absurd q4 (hgl _ _ q1 q2)
     ·exact absurd (hM.inj _ _ _ _ _ q4 q2).1 hne
     ·exact(hM.inj _ _ _ _ _ q2 q4).2
    ·exact(YR j' b hh').elim
   ·exact(YR j b hh).elim) (fun r' i' e' hc=>by
   rcases e' with rfl|rfl
   ·rw[KI] at hc
    have hc:(xss++[ys]).length<=i':=hc
    rw[List.length_append,List.length_singleton] at hc
    rw[yJ,aP _ _ (by omega)]
    exact k7 i' (by omega)
   ·rw[b0];rfl) (fun r' e' h=>by
   rcases e' with rfl|rfl
   ·rcases hrv with h9|h9<;>(rw[h9] at h;exact h.elim)
   ·rw[hr2] at h;exact h.elim) (fun r' e' h=>by
   rcases e' with rfl|rfl
   ·rcases hrv with h9|h9<;>(rw[h9] at h;exact h.elim)
   ·rw[hr2] at h;exact h.elim) (fun r' v' e' h=>by
   rcases e' with rfl|rfl
   ·rw[KI]
    rcases hrv with h9|h9
    ·rw[h9] at h;exact h.elim
    ·rw[h9] at h;exact Nat.le_trans h (a4K _)
   ·rw[hr2] at h;rw[zO];exact Nat.le_trans h (a4K _)) (fun r' v' e' h h'=>by
   rcases e' with rfl|rfl
   ·rw[KI] at h'
    have h':gv (nx v)=gv v':=h'
    rcases hrv with h9|h9
    ·rw[h9] at h;exact h.elim
    ·rw[h9] at h
     have h:v'<=v:=h
     have:=MN h
     have:=a0Z v
     omega
   ·rw[hr2] at h;rw[zO] at h'
    have h:v'<=v2:=h
    have h':gv (nx v2)=gv v':=h'
    have:=MN h
    have:=a0Z v2
    omega) (fun r' v' e' h h'=>by
   rcases e' with rfl|rfl
   ·rw[KI] at h'
    have h':nx v=v':=h'
    rcases hrv with h9|h9
    ·rw[h9] at h;exact h.elim
    ·rw[h9] at h
     have h:v'<=v:=h
     have:=MN h
     have:=a0Z v
     rw[<-h'] at h
     have:=MN h
     omega
   ·rw[zO] at h';exact h'.elim) (fun r' e'=>by
   rcases e' with rfl|rfl
   ·rw[KI];exact hx
   ·rw[zO];exact hx2) (fun _ r' k e' h=>by
   rcases e' with rfl|rfl
   ·rw[KI] at h;cases h
   ·rw[zO] at h;cases h)
 exact⟨s',w',E',hrun,m1,m2,YO.symm⟩
theorem b1O {T:Told} {k:Operand->K} {ev:Operand->Value} {o:Oper} {vc:List Prop} {kk:K} {l:List (Nat × Res)} (h:RZ P T ρ k o.dst o.op=some (vc,kk,l)) (hv:aV vc) (hM:Mem E ρ W w) (hw:∀ x,(k x).wf ρ) (hk:∀ x,(k x).holds E ρ w (ev x)):gG P E ρ W w o ev kk l:=by
 cases ho:o.op<;>rw[ho] at h<;>try (simp[RZ] at h;done)
 case buildSlice t len parts =>
  simp only[RZ] at h
  split at h<;>first|(cases h;done)|skip
  rename_i r hd
  split at h<;>first|(cases h;done)|skip
  rename_i ty hty
  split at h<;>first|(cases h;done)|skip
  rename_i e hsb
  split at h<;>first|(cases h;done)|skip
  rename_i e2 c1e
  split at h<;>first|(cases h;done)|skip
  ·rename_i hp
   have hp:parts=#[]:=by apply Array.ext';simpa using hp
   subst hp
   split at h<;>first|(cases h;done)|skip
   rename_i hc
   simp only[Bool.and_eq_true] at hc
   simp only[Option.some.injEq,Prod.mk.injEq] at h
   obtain⟨_,rfl,rfl⟩:=h
   have hρ:=Res.lW hc.1
   have hrun:=run_buildSlice (P:=P) (w:=w) (t:=t) (ty:=.list ty) (xs:=[]) (vs:=[]) (ps:=[]) (n:=0) hsb rfl .nil
   obtain⟨w1,w2,w3⟩:=ER (w:=w) (e:=e) (n:=0) (m:=1) (L:=[]) rfl (by omega) (fun u hu=>by cases hu)
   have hsl:(E.vK r (some w.heap.size) (.slice (some ⟨w.heap.size,0,none⟩) 0 0) (fun _=>undef)).sl r=.slice (some ⟨w.heap.size,0,none⟩) 0 0:=aG _ _ _
   have hin:(E.vK r (some w.heap.size) (.slice (some ⟨w.heap.size,0,none⟩) 0 0) (fun _=>undef)).inn r=fun _=>undef:=aG _ _ _
   obtain⟨m1,m2⟩:=hM.JD (w':=w.alloc (.cells ([]:List Value).toArray e)) r (kQ.below w1 _) (some w.heap.size) (.slice (some ⟨w.heap.size,0,none⟩) 0 0) (fun _=>undef) (.mat e e2 ty none [] 0)
    ⟨by rw[hsl];show bW E.blk r _ r=_;rw[aG];rfl,hc.2,⟨[],by rw[hsl];exact w2,rfl,by rw[hsl];exact w3⟩,fun x hx=>by simp[aW] at hx,fun j _=>by rw[hin];rfl,fun j xs hj=>by simp at hj⟩ (fun q hq=>by
     rcases hq with hq|⟨j,hq⟩
     ·cases hq;exact .inr (Nat.le_refl _)
     ·cases hq) (fun q j _ hq=>by cases hq) (fun j j' q hq=>by cases hq) (fun j _=>rfl) (fun h=>by rw[hρ] at h;exact h.elim) (fun h=>by rw[hρ] at h;exact h.elim) (fun v h=>by rw[hρ] at h;exact h.elim) (fun v h=>by rw[hρ] at h;exact h.elim) (fun v h=>by rw[hρ] at h;exact h.elim) (fun _ k e=>by cases e)
   refine gG.of (s:=Instr.buildSlice t 0 #[]) (by simp[execOp,ho]) ⟨_,_,_,hrun,m1,m2,?_,fun _=>hsl.symm⟩
   show Res.fB 0 (bW ρ r _ r)
   rw[aG]
   exact Nat.le_refl 0
  ·rename_i y hp
   have hp:parts=#[(0,y)]:=by apply Array.ext';simpa using hp
   subst hp
   split at h<;>first|(cases h;done)|skip
   rename_i r2 v2 hy
   split at h<;>first|(cases h;done)|skip
   rename_i e9 t9 xs9 v9 hr2
   split at h<;>first|(cases h;done)|skip
   rename_i hc
   simp only[Bool.and_eq_true,beq_iff_eq] at hc
   obtain⟨hv9,c1d⟩:=hc
   simp only[Option.some.injEq,Prod.mk.injEq] at h
   obtain⟨_,rfl,rfl⟩:=h
   have hky:=hk y
   have hwy:=hw y
   rw[hy] at hky hwy
   have hyv:ev y=E.sl r2:=hky (by rw[hr2];exact hv9.symm)
   have h2:=hM.res r2
   rw[hr2] at h2
   obtain⟨_,_,cs2,p3,p4,_⟩:=h2
   obtain⟨sp,sc,hsl2⟩:=pX p3
   have hcells:(ev y).cells.toList=[E.sl r2]:=by rw[hyv,hsl2];rfl
   have hrun:=run_buildSlice (P:=P) (w:=w) (t:=t) (ty:=.list ty) (xs:=[]) (vs:=[ev y]) (ps:=[]) (n:=1) c1d rfl (.cons ⟨by simp,by show (ev y).cells.toList.length=1;rw[hcells];rfl⟩ .nil)
   have hL:(List.map (fun v=>Value.cells v |>.toList) [ev y]).flatten=[E.sl r2]:=by simp[hcells]
   rw[hL] at hrun
   have hb:Below w.heap.size w (w.alloc (.cells [E.sl r2].toArray e)):=(Below.refl _ _).alloc (Nat.le_refl _) _
   have hcell:(w.alloc (.cells [E.sl r2].toArray e)).heap[w.heap.size]?=some (.cells [E.sl r2].toArray e (0,0)):=heap_alloc_new w _
   obtain⟨m1,m2⟩:=hM.grows hb
   refine gG.of (s:=Instr.buildSlice t 1 #[(0,ev y)]) (by simp[execOp,ho]) ⟨_,_,E,hrun,m1,m2,hwy,fun _=>⟨w.heap.size,rfl,vT (by simp) (hM.base _ (.inr hM.below.size)) (fun r' j hh=>by have:=hM.lt hh;omega),fun j u hu=>?_⟩⟩
   rw[Nat.zero_add,cell_of_row _ _ _ _ _ _ hcell];simpa using hu
 case call c =>
  obtain⟨cl,xs,ts⟩:=c
  cases cl<;>try (simp[RZ] at h;done)
  rename_i bi
  cases bi<;>try (simp[RZ] at h;done)
  simp only[RZ] at h
  split at h<;>first|(cases h;done)|skip
  rename_i s x t t' hxs hts
  have exs:xs=#[s,x]:=by rw[<-Array.toArray_toList (xs:=xs),hxs]
  have ets:ts=#[t,t']:=by rw[<-Array.toArray_toList (xs:=ts),hts]
  subst exs ets
  split at h<;>first|(cases h;done)|skip
  rename_i htt
  subst htt
  split at h<;>first|(cases h;done)|skip
  rename_i r2 v2 hx
  split at h<;>first|(cases h;done)|skip
  rename_i e2' ty' ys v2' hr2
  have hkx:=hk x
  rw[hx] at hkx
  split at h<;>first|(cases h;done)|skip
  ·rename_i _ r v hs
   have hks:=hk s
   rw[hs] at hks
   split at h<;>first|(cases h;done)|skip
   rename_i e e2 ty ids xss v' hr
   split at h<;>first|(cases h;done)|skip
   rename_i zs hcast
   split at h<;>first|(cases h;done)|skip
   rename_i hc
   simp only[Bool.and_eq_true,beq_iff_eq,bne_iff_ne,ne_eq] at hc
   obtain⟨⟨⟨⟨⟨⟨c1,c2⟩,c3⟩,c4⟩,c5⟩,c6⟩,c7⟩:=hc
   subst c4
   obtain⟨e9,hcast⟩:=fH hcast
   simp only[Ty.list.injEq] at e9
   subst e9
   have hcast:ys=zs:=hcast
   subst hcast
   simp only[XU,Option.some.injEq,Prod.mk.injEq] at h
   obtain⟨rfl,rfl,rfl⟩:=h
   obtain⟨b,hxv,hbF,hbr⟩:=hkx (by rw[hr2];exact c3.symm)
   have hsv:ev s=E.sl r:=hks (by rw[hr];exact c2.symm)
   have h1:=hM.res r
   rw[hr] at h1
   obtain⟨k1,k2,⟨cs0,k3,k4,k5⟩,k6,k7,k8⟩:=h1
   obtain⟨s',w',E',g1,g2,g3,g4⟩:=a4R (T0:=o.type) hM c5 c6 c7 c1 hr2 (.inr hr) k1 k3 k4 k5 k6 k7 k8 hbF hbr hv.1
   refine gG.of (rP ho) ⟨s',w',E',by rw[hsv,hxv];exact g1,g2,g3,?_,fun _=>g4⟩
   show Res.fB (nx v') (bW (bW ρ r _) r2 _ r)
   rw[aP _ _ (fun e=>c1 e.symm),aG]
   exact Nat.le_refl _
  ·rename_i r hs hd
   have hks:=hk s
   rw[hs] at hks
   split at h<;>first|(cases h;done)|skip
   rename_i e hsb
   split at h<;>first|(cases h;done)|skip
   rename_i hc
   simp only[Bool.and_eq_true,beq_iff_eq,bne_iff_ne,ne_eq] at hc
   obtain⟨⟨⟨⟨c1,c3⟩,c4⟩,c6⟩,c7⟩:=hc
   simp only[XU,Option.some.injEq,Prod.mk.injEq] at h
   obtain⟨rfl,rfl,rfl⟩:=h
   obtain⟨b,hxv,hbF,hbr⟩:=hkx (by rw[hr2];exact c3.symm)
   have hsv:ev s=.slice none 0 0:=hks
   have hr:=Res.lW c4
   have h1:=hM.res r
   rw[hr] at h1
   obtain⟨s',w',E',g1,g2,g3,g4⟩:=a4R (T0:=o.type) (ids:=none) (xss:=[]) (v:=0) (s:=.slice none 0 0) (cs0:=[]) hM hsb c6 c7 c1 hr2 (.inl hr) h1 (World.ownsRow_nil w _ _ _) rfl (fun g hg=>by cases hg) (fun i hi=>by simp[aW] at hi) (fun i _=>hM.inner r i (by rw[hr];exact Nat.zero_le _)) (fun i xs hi=>by simp at hi) hbF hbr hv.1
   refine gG.of (rP ho) ⟨s',w',E',by rw[hsv,hxv];exact g1,g2,g3,?_,fun _=>g4⟩
   show Res.fB (nx 0) (bW (bW ρ r _) r2 _ r)
   rw[aP _ _ (fun e=>c1 e.symm),aG]
   exact Nat.le_refl _
end
end
section
set_option linter.unusedSimpArgs false
set_option linter.unusedVariables false
def yV (ρ:Nat->Res):(ts:List Ty)->List K->Option (List Prop × (nest ts).den × List (Nat × Res))
 | [],[]=>some ([],(),[])
 | t::ts,k::ks=>match wQ ρ (some t) k with
  | some (p,l)=>match nV p.t t,yV (after ρ l) ts ks with
   | some q,some (vc,x,l')=>some (q.c p.x++vc,(q.f p.x,x),l++l')
   | _,_=>none
  | none=>none
 | _,_=>none
def a0w:(t:Ty)->t.den->List K
 | .pair a b,x=>.val a x.1::a0w b x.2
 | _,_=>[]
def yH:Ty->Bool
 | .pair a b=>!a.agg&&yH b
 | .unit=>true
 | _=>false
def a5L:List K->Option Part
 | []=>some ⟨.unit,()⟩
 | .val t x::ks=>if t.agg then none else (a5L ks).map fun p=>⟨.pair t p.t,(x,p.x)⟩
 | _=>none
def JY (P:Program) (g:FuncId):Bool:=match P.funcs[g]? with
 | some fn=>!(fn.name == "runtime.NumGoroutine")&&!fn.body.isNone
 | none=>false
def DL:List K->Option (List K0)
 | []=>some []
 | .val t x::ks=>if t.agg then none else (DL ks).map fun l=>.val t x::l
 | .ptr r o::ks=>(DL ks).map fun l=>.ptr r o::l
 | .lY r::ks=>(DL ks).map fun l=>.lY r::l
 | _=>none
def Ty.free:Ty->Bool
 | .bool=>true
 | .int _=>true
 | .lf _=>true
 | .arr _ t=>t.free
 | .pair a b=>a.free&&b.free
 | .unit=>true
 | _=>false
def rowsOf {α:Type} (ids:Option (List Nat)) (xss:List (List α)):List (List α):=match ids with
 | none=>xss
 | some l=>l.map (rowAt xss)
def uG (ρ:Nat->Res) (t:Option Ty):K->Option Part
 | .val t x=>some ⟨t,x⟩
 | .nil=>match t with
  | some (.list u)=>some ⟨.list u,[]⟩
  | _=>none
 | .own r v=>match ρ r with
  | .row _ t xs v'=>if gv v=gv v' then some ⟨.list t,xs⟩ else none
  | .fro t xs v'=>if gv v=gv v' then some ⟨.list t,xs⟩ else none
  | .mat _ _ t ids xss v'=>if gv v=gv v' then some ⟨.list (.list t),rowsOf ids xss⟩ else none
  | _=>none
 | .mrow r v i=>match ρ r with
  | .mat _ _ t _ xss v'=>if v=v' then some ⟨.list t,rowAt xss i⟩ else none
  | _=>none
 | _=>none
def b9P (p:Part):Part:=⟨.ref p.t,p.x⟩
def b3w (t:Option Ty) (ps:List Part) (o:Nat):Option Part:=match t,FT ps o with
 | some (.ref u),some (_,qs)=>(pack u qs).map fun p=>b9P p.1
 | _,_=>none
def DV (ρ:Nat->Res) (t:Option Ty):K->Option Part
 | .ptr r o=>match ρ r with
  | .box ps=>b3w t ps o
  | _=>none
 | .lY r=>match ρ r with
  | .lH k=>match t with
   | some (.ref u)=>(uG ρ (some u) k).map b9P
   | _=>none
  | _=>none
 | k=>uG ρ t k
def iT (ρ:Nat->Res):Ty->List K0->Option Part
 | .unit,[]=>some ⟨.unit,()⟩
 | .pair a b,k::ks=>match DV ρ (some a) (k0K k),iT ρ b ks with
  | some p,some q=>if p.t.agg then none else some ⟨.pair p.t q.t,(p.x,q.x)⟩
  | _,_=>none
 | _,_=>none
def c0M (g:Nat) (p:Part):Part:=⟨.clo g p.t,p.x⟩
def TW (ρ:Nat->Res) (t:Ty):K->Option Part
 | .fn g ks=>match t with
  | .clo _ u=>(iT ρ u ks).map (c0M g)
  | _=>none
 | k=>DV ρ (some t) k
def mV (ρ:Nat->Res):(ts:List Ty)->List K->Option (List Prop × (nest ts).den)
 | [],[]=>some ([],())
 | t::ts,k::ks=>match TW ρ t k with
  | some p=>match nV p.t t,mV ρ ts ks with
   | some q,some (vc,x)=>some (q.c p.x++vc,(q.f p.x,x))
   | _,_=>none
  | none=>none
 | _,_=>none
def b8W (c:Ctr):Bool:=c.res.all Ty.free
def a5B {α:Type} (a:List Prop × α):List Prop × α × List (Nat × Res):=(a.1,a.2,[])
def a0r (ρ:Nat->Res) (c:Ctr) (ks:List K):Option (List Prop × (nest c.args).den × List (Nat × Res)) :=
 orC (if b8W c then (mV ρ c.args ks).map a5B else none) (yV ρ c.args ks)
def b2Z (c:Ctr) (a:List Prop × (nest c.args).den × List (Nat × Res)):List Prop × K × List (Nat × Res):=(a.1++[c.pre a.2.1],a9G c.res (c.fn a.2.1),a.2.2)
def DK (ρ:Nat->Res) (ks:List K):List Ctr->MK
 | []=>none
 | c::cs=>match a0r ρ c ks with
  | some a=>some (b2Z c a)
  | none=>DK ρ ks cs
def vC (P:Program) (C:FuncId->List Ctr) (ρ:Nat->Res) (k:Operand->K):Op->MK
 | .makeFunc (.func g) first caps=>if first.isEmpty then (match a5L (caps.toList.map k) with
  | some p=>some ([],.val (.clo g p.t) p.x,[])
  | none=>(DL (caps.toList.map k)).map fun l=>([],.fn g l,[])) else none
 | .call { callee:=.value f,args:=xs,argTypes:=_ }=>match k f with
  | .val (.clo g t) cx=>if JY P g&&yH t then DK ρ (xs.toList.map k++a0w t cx) (C g) else none
  | .fn g l=>if JY P g then DK ρ (xs.toList.map k++l.map k0K) (C g) else none
  | _=>none
 | _=>none
section
variable {P:Program} {E:Env} {ρ:Nat->Res} {W w:World}
theorem PI:∀ {ts:List Ty} {ks:List K} {ρ:Nat->Res} {E:Env} {vc:List Prop} {x:(nest ts).den} {l:List (Nat × Res)} {vs:List Value},yV ρ ts ks=some (vc,x,l)->aV vc->Mem E ρ W w->(∀ k ∈ ks,k.wf ρ)->kZ (fun k v=>K.holds E ρ w k v) ks vs ->
  ∃ E',Mem E' (after ρ l) W w/\Ext E ρ w E' (after ρ l) w/\jO (fz w E') w ts vs x
 | [],[],ρ,E,vc,x,l,vs,h,hv,hM,hw,hk=>by
  simp only[yV,Option.some.injEq,Prod.mk.injEq] at h
  obtain⟨_,_,rfl⟩:=h
  cases hk
  exact⟨E,hM,Ext.refl _ _ _,rfl⟩
 | [],_::_,ρ,E,vc,x,l,vs,h,hv,hM,hw,hk=>by simp[yV] at h
 | _::_,[],ρ,E,vc,x,l,vs,h,hv,hM,hw,hk=>by simp[yV] at h
 | t::ts,k::ks,ρ,E,vc,x,l,vs,h,hv,hM,hw,hk=>by
  simp only[yV] at h
  split at h<;>first|(cases h;done)|skip
  rename_i p l1 h1
  split at h<;>first|(cases h;done)|skip
  rename_i q vc2 x2 l2 hq h2
  simp only[Option.some.injEq,Prod.mk.injEq] at h
  obtain⟨rfl,rfl,rfl⟩:=h
  cases hk
  rename_i v vs hv1 hvs
  obtain⟨E1,m1,m2,m3⟩:=qG h1 hM (hw k (List.mem_cons_self ..)) hv1
  have b4k:kZ (fun k v=>K.holds E1 (after ρ l1) w k v) ks vs:=by
   have hw':∀ k ∈ ks,k.wf ρ:=fun k hk=>hw k (List.mem_cons_of_mem _ hk)
   clear h2 hw
   induction hvs with
   | nil=>exact .nil
   | cons a b ih=>exact .cons (m2.holds _ _ (hw' _ (List.mem_cons_self ..)) a) (ih (fun k hk=>hw' k (List.mem_cons_of_mem _ hk)))
  obtain⟨hva,hvb⟩:=bM.1 hv
  obtain⟨E2,n1,n2,n3⟩:=PI h2 hvb m1 (fun k hk=>m2.wf k (hw k (List.mem_cons_of_mem _ hk))) b4k
  refine⟨E2,by rw[gU];exact n1,by rw[gU];exact m2.trans n2,v,vs,rfl,?_,n3⟩
  obtain⟨cs,rfl,hr⟩:=gB n2.fz n2.stay m3
  exact⟨cs,by unfold Ty.toV;rw[vP _ _ _ hq],wS _ _ _ hq cs _ hr hva⟩
theorem YC {F:Nat->Prop}:(t:Ty)->(x:t.den)->(ds:List Value)->yH t=true->rep F w t ds x->(∀ q,F q->fz w E q)->kZ (fun k v=>K.holds E ρ w k v) (a0w t x) ds/\∀ k ∈ a0w t x,k.wf ρ
 | .pair a b,x,ds,h,⟨c1,c2,h1,h2,h3⟩,hF=>by
  simp only[yH,Bool.and_eq_true,Bool.not_eq_true'] at h
  obtain⟨k1,k2⟩:=YC b x.2 c2 h.2 h3 hF
  have hl:=dZ a _ _ h2
  have hn:a.n=1:=by
   have:=h.1
   cases a<;>simp_all [Ty.agg,Ty.n]
   rename_i l;cases l<;>simp_all [Lf.agg,Lf.n]
  rw[hn] at hl
  obtain⟨v,rfl⟩:∃ v,c1=[v]:=by
   match c1,hl with
   | [v],_=>exact⟨v,rfl⟩
  refine⟨by rw[h1];exact .cons ⟨[v],by unfold Ty.toV;rw[h.1];rfl,dL hF (jQ.refl _ _) a _ _ h2⟩ k1,fun k hk=>?_⟩
  rcases List.mem_cons.1 hk with rfl|hk
  ·trivial
  ·exact k2 k hk
 | .unit,x,ds,h,hr,hF=>⟨by rw[show ds=[] from hr];exact .nil,fun k hk=>by cases hk⟩
 | .bool,x,ds,h,hr,hF=>by simp[yH] at h
 | .int _,x,ds,h,hr,hF=>by simp[yH] at h
 | .lf _,x,ds,h,hr,hF=>by simp[yH] at h
 | .list _,x,ds,h,hr,hF=>by simp[yH] at h
 | .arr _ _,x,ds,h,hr,hF=>by simp[yH] at h
 | .ref _,x,ds,h,hr,hF=>by simp[yH] at h
 | .clo _ _,x,ds,h,hr,hF=>by simp[yH] at h
theorem a4n:∀ {ks:List K} {p:Part} {vs:List Value},a5L ks=some p->kZ (fun k v=>K.holds E ρ w k v) ks vs->rep (fz w E) w p.t vs p.x
 | [],p,vs,h,hk=>by
  simp only[a5L,Option.some.injEq] at h
  subst h
  cases hk
  rfl
 | k::ks,p,vs,h,hk=>by
  cases k<;>try (simp[a5L] at h;done)
  rename_i t x
  simp only[a5L] at h
  split at h<;>first|(cases h;done)|skip
  rename_i ha
  simp only[Option.map_eq_some_iff] at h
  obtain⟨p',h1,rfl⟩:=h
  cases hk
  rename_i v vs hv hvs
  obtain⟨cs,rfl,hr⟩:=hv
  have ha:t.agg=false:=by simpa using ha
  have hl:=dZ t _ _ hr
  have hn:t.n=1:=by
   cases t<;>simp_all [Ty.agg,Ty.n]
   rename_i l;cases l<;>simp_all [Lf.agg,Lf.n]
  rw[hn] at hl
  obtain⟨v,rfl⟩:∃ v,cs=[v]:=by
   match cs,hl with
   | [v],_=>exact⟨v,rfl⟩
  exact⟨[v],vs,by unfold Ty.toV;rw[ha];rfl,hr,a4n h1 hvs⟩
theorem VL {g:FuncId} {args:Array Value} (h:JY P g=true):(callFunc g args).run P w=.ok (.enter g args) w:=by
 unfold JY at h
 split at h<;>first|(cases h;done)|skip
 rename_i fn hf
 simp only[Bool.and_eq_true,Bool.not_eq_true'] at h
 unfold callFunc
 rw[Sem.run_bind]
 show (Result.ok P w).andThen _=_
 simp only[Result.andThen_ok,hf,h.1,h.2,Bool.false_eq_true,if_false]
 rfl
theorem OO {F:Nat->Prop} {ts:List Ty} {v:Value} {y:(nest ts).den} (hF:∀ q,F q->fz w E q) (h:qA F w ts v y):(a9G ts y).holds E ρ w v/\(a9G ts y).wf ρ:=by
 match ts,y,h with
 | [t],y,h=>exact⟨gB hF (jQ.refl _ _) h,trivial⟩
 | [],y,⟨vs,h1,h2⟩=>exact⟨⟨vs,h1,kJ hF (jQ.refl _ _) [] vs y h2⟩,trivial⟩
 | t1::t2::ts,y,⟨vs,h1,h2⟩=>exact⟨⟨vs,h1,kJ hF (jQ.refl _ _) _ vs y h2⟩,trivial⟩
def BJ (P:Program) (E:Env) (ρ:Nat->Res) (W w:World) (o:Oper) (a:Act) (k:K) (l:List (Nat × Res)):Prop :=
 ∀ (next:Act->World->Prop) (Q:Exit->Act->World->Prop),(∀ v w' E',Mem E' (after ρ l) W w'->Ext E ρ w E' (after ρ l) w'->k.wf (after ρ l)->k.holds E' (after ρ l) w' v->next (a.put o.dst v) w')->o.wp P a w next Q
theorem gG.steps {o:Oper} {a:Act} {k:K} {l:List (Nat × Res)} (h:gG P E ρ W w o a.eval k l):BJ P E ρ W w o a k l:=by
 intro next Q hn
 obtain⟨nx,v,w',E',h1,h2,h3,h4,h5,h6⟩:=h
 unfold Oper.wp
 rw[h1]
 rcases h2 with rfl|⟨rfl,rfl⟩
 ·exact hn v w' E' h3 h4 h5 h6
 ·exact hn undef w' E' h3 h4 h5 h6
theorem oK {F F':Nat->Prop} {w:World}:(t:Ty)->t.free=true->(cs:List Value)->(x:t.den)->rep F w t cs x->rep F' w t cs x
 | .bool,_,_,_,h=>h
 | .int _,_,_,_,h=>h
 | .lf _,_,_,_,h=>h
 | .list _,hf,_,_,_=>by simp[Ty.free] at hf
 | .arr n t,hf,_,_,⟨h1,h2⟩=>⟨h1,aZ (fun c y=>oK t (by simpa [Ty.free] using hf) c y) _ _ h2⟩
 | .pair a b,hf,_,_,⟨c1,c2,h1,h2,h3⟩=>by
  simp only[Ty.free,Bool.and_eq_true] at hf
  exact⟨c1,c2,h1,oK a hf.1 _ _ h2,oK b hf.2 _ _ h3⟩
 | .unit,_,_,_,h=>h
 | .ref _,hf,_,_,_=>by simp[Ty.free] at hf
 | .clo _ _,hf,_,_,_=>by simp[Ty.free] at hf
theorem a2m {F F':Nat->Prop} {w:World}:(ts:List Ty)->ts.all Ty.free=true->(vs:List Value)->(x:(nest ts).den)->jO F w ts vs x->jO F' w ts vs x
 | [],_,_,_,h=>h
 | t::ts,hf,_,x,⟨v,vs',h1,⟨cs,h2,h3⟩,h4⟩=>by
  simp only[List.all_cons,Bool.and_eq_true] at hf
  exact⟨v,vs',h1,⟨cs,h2,oK t hf.1 _ _ h3⟩,a2m ts hf.2 vs' x.2 h4⟩
theorem SV {F F':Nat->Prop} {w:World} {ts:List Ty} {v:Value} {y:(nest ts).den} (hf:ts.all Ty.free=true) (h:qA F w ts v y):qA F' w ts v y:=by
 match ts,y,h with
 | [t],y,h =>
  obtain⟨cs,h1,h2⟩:=h
  exact⟨cs,h1,oK t (by simpa using hf) _ _ h2⟩
 | [],y,⟨vs,h1,h2⟩=>exact⟨vs,h1,h2⟩
 | t1::t2::ts,y,⟨vs,h1,h2⟩=>exact⟨vs,h1,a2m _ hf vs y h2⟩
def DR (w:World) (q:Nat):Prop:=q<w.heap.size
theorem a8c {q:Nat} (h:fz w E q):DR w q:=h.1.1
theorem XG {F:Nat->Prop} {t:Option Ty} {k:K} {p:Part} {v:Value} (h:uG ρ t k=some p) (hM:Mem E ρ W w) (hw:k.wf ρ) (hk:k.holds E ρ w v) (hF:∀ q,fz w E q->F q) (ho:∀ r ver,k=.own r ver->∀ j g,E.has r j g->F g) (hm:∀ r ver i,k=.mrow r ver i->∀ g,E.has r (i+1) g->F g):jY F w p.t v p.x:=by
 have hst:=jQ.refl (fz w E) w
 cases k<;>try (simp[uG] at h;done)
 case val t x =>
  simp only[uG,Option.some.injEq] at h
  subst h
  exact gB hF hst hk
 case nil =>
  cases t<;>simp only[uG] at h<;>first|(cases h;done)|skip
  rename_i t
  cases t<;>simp only[Option.some.injEq] at h<;>first|(cases h;done)|skip
  subst h
  exact⟨[.slice none 0 0],hk,none,0,rfl,by simp,by omega,.inl rfl⟩
 case own r ver =>
  simp only[uG] at h
  have h1:=hM.res r
  split at h<;>first|(cases h;done)|skip
  all_goals
   rename_i hr
   split at h<;>first|(cases h;done)|skip
   rename_i hv0
   simp only[Option.some.injEq] at h
   subst h
   have hv:v=E.sl r:=hk (by rw[hr];exact hv0.symm)
   rw[hr] at h1
   rw[hv]
  ·obtain⟨k1,k2,cs,k3,k4,k5⟩:=h1
   exact nM (E:=E) k3 (aZ (fun c y=>dL hF hst _ c y) _ _ k4) (fun g hg=>ho r ver rfl 0 g (k1.trans hg))
  ·exact gB hF hst h1.2
  ·rename_i e e2 t ids xss v9
   obtain⟨k1,k2,⟨cs,k3,k4,k5⟩,k6,k7,k8⟩:=h1
   have hrow:∀ i,i<xss.length->rep (F) w (.list t) [E.inn r i] (rowAt xss i):=fun i hi=>by
    obtain⟨ds,q1,q2,q3⟩:=k8 i (rowAt xss i) (getD_at _ _ _ hi)
    obtain⟨cs9,e9,r9⟩:=nM (E:=E) (F:=F) q1 (aZ (fun c y=>dL hF hst t c y) _ _ q2) (fun g hg=>ho r ver rfl (i+1) g hg)
    have r8:=r9
    obtain⟨p9,c9,e8,_⟩:=r9
    have e7:cs9=[E.inn r i]:=by
     have:E.inn r i=cs9.headD undef:=e9
     rw[this,e8];rfl
    rw[<-e7];exact r8
   have key:∀ (l:List Nat),(∀ i ∈ l,i<xss.length)->chunks (rep (F) w (.list t)) (l.map (E.inn r)) (l.map (rowAt xss)):=by
    intro l
    induction l with
    | nil=>intro _;rfl
    | cons i l ih=>intro hl;exact⟨[E.inn r i],_,rfl,hrow i (hl i (List.mem_cons_self ..)),ih (fun j hj=>hl j (List.mem_cons_of_mem _ hj))⟩
   have hval:rowsOf ids xss=(aW ids xss).map (rowAt xss):=by
    cases ids with
    | some l=>rfl
    | none =>
     simp only[aW,rowsOf]
     apply List.ext_getElem?
     intro i
     rw[List.getElem?_map]
     by_cases hi:i<xss.length
     ·rw[List.getElem?_range hi];exact getD_at _ _ _ hi
     ·rw[List.getElem?_eq_none (by omega),List.getElem?_eq_none (by simpa using hi)];rfl
   show jY (F) w (.list (.list t)) (E.sl r) (rowsOf ids xss)
   rw[hval]
   refine nM (E:=E) (t:=.list t) (e:=e) (cs:=cs) ?_ (by rw[k4];exact key _ k6) (fun g hg=>ho r ver rfl 0 g (k1.trans hg))
   have e9:(aW ids xss).length=List.length (α:=(Ty.list t).den) ((aW ids xss).map (rowAt xss)):=(List.length_map ..).symm
   exact e9 ▸ k3
 case mrow r ver i =>
  simp only[uG] at h
  split at h<;>first|(cases h;done)|skip
  rename_i hr
  split at h<;>first|(cases h;done)|skip
  rename_i hv
  subst hv
  simp only[Option.some.injEq] at h
  subst h
  have hv:v=E.inn r i:=hk (by rw[hr];rfl)
  have hi:=hw.2 (by rw[hr];rfl)
  rw[hr] at hi
  obtain⟨cs,q1,q2,q3⟩:=qQ hM hr hi
  rw[hv]
  exact nM (E:=E) q1 (aZ (fun c y=>dL hF hst _ c y) _ _ q2) (fun g hg=>hm r ver i rfl g hg)
theorem a2s {t:Option Ty} {k:K} {p:Part} {v:Value} (h:uG ρ t k=some p) (hM:Mem E ρ W w) (hw:k.wf ρ) (hk:k.holds E ρ w v):jY (DR w) w p.t v p.x:=XG h hM hw hk (fun q h=>a8c h) (fun r _ _ j g hg=>hM.lt hg) (fun r _ i _ g hg=>hM.lt hg)
theorem a2r {t:Option Ty} {k:K} {p:Part} {v:Value} (h:DV ρ t k=some p) (hM:Mem E ρ W w) (hw:k.wf ρ) (hk:k.holds E ρ w v):jY (DR w) w p.t v p.x:=by
 have hF:∀ q,fz w E q->DR w q:=fun q h=>a8c h
 cases k
 case ptr r o =>
  simp only[DV] at h
  split at h<;>first|(cases h;done)|skip
  rename_i ps hr
  unfold b3w at h
  split at h<;>first|(cases h;done)|skip
  rename_i u a qs hd
  simp only[Option.map_eq_some_iff] at h
  obtain⟨⟨p1,p2⟩,h1,rfl⟩:=h
  have h2:=hM.res r
  rw[hr] at h2
  obtain⟨b,cs,e,k1,k3,k4⟩:=h2
  obtain⟨b',g1,g2⟩:=hk
  rw[g1] at k1;cases k1
  obtain⟨rfl,e2⟩:=sV ps o _ _ hd
  obtain⟨c1,c2,rfl,n1,n2⟩:=nU k4
  obtain⟨c3,c4,rfl,n3,n4⟩:=sJ u _ _ _ _ h1 n2
  have hl:=qM n1
  refine⟨[v],rfl,b,o,c3,by rw[g2],hM.lt (r:=r) (j:=0) g1,fun j x hx=>?_,dL hF (jQ.refl _ _) _ _ _ n3.1⟩
  rw[cell_of_row _ _ _ _ _ _ k3]
  simp only[List.getElem?_toArray]
  rw[List.getElem?_append_right (by omega),hl,e2,Nat.add_sub_cancel_left,List.getElem?_append_left (by have:=(List.getElem?_eq_some_iff.1 hx).1;exact this)]
  exact hx
 case lY r =>
  simp only[DV] at h
  split at h<;>first|(cases h;done)|skip
  rename_i k9 hr
  split at h<;>first|(cases h;done)|skip
  rename_i u
  simp only[Option.map_eq_some_iff] at h
  obtain⟨p1,h1,rfl⟩:=h
  obtain⟨q1,q2,b,x,e,q3,q4,q5,q6⟩:=hM.kbx r k9 hr
  obtain⟨b',g1,g2⟩:=hk (by rw[hr];trivial)
  rw[g1] at q3;cases q3
  obtain⟨cs,h2,h3⟩:=a2s h1 hM q1 q6
  have hcs:cs=[x]:=by
   have hl:=dZ _ _ _ h3
   have hc:=nP _ _ _ h3
   rw[<-h2] at hc
   obtain⟨_,hx⟩:=one_cell q2 q6 (fun r' ver e=>by
    rw[e] at h1
    simp only[uG] at h1
    split at h1<;>first|(cases h1;done)|skip
    all_goals
     rename_i hr9
     split at h1<;>first|(cases h1;done)|skip
     rename_i hv9
     rw[hr9];exact hv9.symm) hM
   rw[hx] at hc
   simpa using hc.symm
  subst hcs
  refine⟨[v],rfl,b,0,[x],by rw[g2],hM.lt (r:=r) (j:=0) g1,fun j u hu=>?_,h3⟩
  rw[Nat.zero_add,cell_of_row _ _ _ _ _ _ q4];simpa using hu
 all_goals exact a2s (by simpa only[DV] using h) hM hw hk
theorem NG:∀ {u:Ty} {ks:List K0} {p:Part} {vs:List Value},iT ρ u ks=some p->Mem E ρ W w->(∀ k ∈ ks,NR ρ k)->nI (fz w E) E ρ w ks vs->rep (DR w) w p.t vs p.x
 | .unit,[],p,vs,h,hM,hw,hk=>by
  simp only[iT,Option.some.injEq] at h
  subst h
  exact hk
 | .pair a b,k::ks,p,vs,h,hM,hw,⟨v,vs',e1,e2,e3⟩=>by
  simp only[iT] at h
  split at h<;>first|(cases h;done)|skip
  rename_i p1 q1 h1 h2
  split at h<;>first|(cases h;done)|skip
  rename_i hag
  simp only[Option.some.injEq] at h
  subst h
  have ih:=NG h2 hM (fun k hk=>hw k (List.mem_cons_of_mem _ hk)) e3
  obtain⟨cs,h3,h4⟩:=a2r h1 hM (YW.1 (hw k (List.mem_cons_self ..))) (CJ.1 e2)
  have hag:p1.t.agg=false:=by simpa using hag
  have hl:=dZ _ _ _ h4
  have hn:p1.t.n=1:=by
   obtain⟨pt,px⟩:=p1
   cases pt<;>simp_all [Ty.agg,Ty.n]
   rename_i l;cases l<;>simp_all [Lf.agg,Lf.n]
  rw[hn] at hl
  match cs,hl with
  | [x],_ =>
   have:v=x:=by rw[h3];unfold Ty.toV;rw[hag];rfl
   subst this
   exact⟨[v],vs',e1,h4,ih⟩
 | .unit,_::_,p,vs,h,_,_,_=>by simp[iT] at h
 | .pair _ _,[],p,vs,h,_,_,_=>by simp[iT] at h
 | .bool,_,p,vs,h,_,_,_=>by simp[iT] at h
 | .int _,_,p,vs,h,_,_,_=>by simp[iT] at h
 | .lf _,_,p,vs,h,_,_,_=>by simp[iT] at h
 | .list _,_,p,vs,h,_,_,_=>by simp[iT] at h
 | .arr _ _,_,p,vs,h,_,_,_=>by simp[iT] at h
 | .ref _,_,p,vs,h,_,_,_=>by simp[iT] at h
 | .clo _ _,_,p,vs,h,_,_,_=>by simp[iT] at h
theorem b0F {t:Ty} {k:K} {p:Part} {v:Value} (h:TW ρ t k=some p) (hM:Mem E ρ W w) (hw:k.wf ρ) (hk:k.holds E ρ w v):jY (DR w) w p.t v p.x:=by
 cases k
 case fn g ks =>
  simp only[TW] at h
  split at h<;>first|(cases h;done)|skip
  simp only[Option.map_eq_some_iff] at h
  obtain⟨p1,h1,rfl⟩:=h
  obtain⟨vs,rfl,h2⟩:=hk
  exact⟨[.func (.func g) #[] vs.toArray],rfl,vs,rfl,NG h1 hM hw h2⟩
 all_goals exact a2r (by simpa only[TW] using h) hM hw hk
theorem BF:∀ {ts:List Ty} {ks:List K} {vc:List Prop} {x:(nest ts).den} {vs:List Value},mV ρ ts ks=some (vc,x)->aV vc->Mem E ρ W w->(∀ k ∈ ks,k.wf ρ)->kZ (fun k v=>K.holds E ρ w k v) ks vs->jO (DR w) w ts vs x
 | [],[],vc,x,vs,h,hv,hM,hw,hk=>by cases hk;rfl
 | [],_::_,vc,x,vs,h,hv,hM,hw,hk=>by simp[mV] at h
 | _::_,[],vc,x,vs,h,hv,hM,hw,hk=>by simp[mV] at h
 | t::ts,k::ks,vc,x,vs,h,hv,hM,hw,hk=>by
  simp only[mV] at h
  split at h<;>first|(cases h;done)|skip
  rename_i p h1
  split at h<;>first|(cases h;done)|skip
  rename_i q vc2 x2 hq h2
  simp only[Option.some.injEq,Prod.mk.injEq] at h
  obtain⟨rfl,rfl⟩:=h
  cases hk
  rename_i v vs hv1 hvs
  obtain⟨hva,hvb⟩:=bM.1 hv
  obtain⟨cs,rfl,hr⟩:=b0F h1 hM (hw k (List.mem_cons_self ..)) hv1
  exact⟨_,vs,rfl,⟨cs,by unfold Ty.toV;rw[vP _ _ _ hq],wS _ _ _ hq cs _ hr hva⟩,BF h2 hvb hM (fun k hk=>hw k (List.mem_cons_of_mem _ hk)) hvs⟩
theorem a7z {cs:List Ctr} {g:FuncId} (hC:∀ c ∈ cs,aT P g c) {ks:List K} {vs:List Value} {vc:List Prop} {kk:K} {l:List (Nat × Res)} (h:DK ρ ks cs=some (vc,kk,l)) (hv:aV vc) (hM:Mem E ρ W w) (hw:∀ k ∈ ks,k.wf ρ) (hk:kZ (fun k v=>K.holds E ρ w k v) ks vs)
  {Q:Ending->World->Prop} (hq:∀ v w' E',Mem E' (after ρ l) W w'->Ext E ρ w E' (after ρ l) w'->kk.wf (after ρ l)->kk.holds E' (after ρ l) w' v->Q (.returned v) w'):Calls P g vs.toArray w Q:=by
 induction cs with
 | nil=>simp[DK] at h
 | cons c cs ih =>
  simp only[DK] at h
  split at h
  ·rename_i a ha
   simp only[Option.some.injEq] at h
   obtain⟨vc1,x,l1⟩:=a
   simp only[b2Z,Prod.mk.injEq] at h
   obtain⟨rfl,rfl,rfl⟩:=h
   obtain⟨hv1,hpre,_⟩:=bM.1 hv
   unfold a0r at ha
   rcases zZ ha with hb|ha
   ·split at hb<;>first|(cases hb;done)|skip
    rename_i hf
    simp only[Option.map_eq_some_iff] at hb
    obtain⟨⟨vc2,x2⟩,hb9,e9⟩:=hb
    simp only[a5B,Prod.mk.injEq] at e9
    obtain⟨rfl,rfl,rfl⟩:=e9
    refine(hC c (List.mem_cons_self ..) (DR w) w _ x2 (fun q hq=>hq) (BF hb9 hv1 hM hw hk) hpre).mono ?_
    rintro e w' ⟨v,rfl,hr,hb⟩
    obtain⟨n1,n2⟩:=hM.grows hb
    obtain⟨r1,r2⟩:=OO (E:=E) (ρ:=ρ) (w:=w') (F:=fz w' E) (fun q hq=>hq) (SV hf hr)
    exact hq v w' E n1 n2 r2 r1
   ·obtain⟨E1,m1,m2,m3⟩:=PI ha hv1 hM hw hk
    refine(hC c (List.mem_cons_self ..) (fz w E1) w _ x (fun q hq=>hq.1.1) m3 hpre).mono ?_
    rintro e w' ⟨v,rfl,hr,hb⟩
    obtain⟨n1,n2⟩:=m1.grows hb
    obtain⟨r1,r2⟩:=OO (E:=E1) (ρ:=after ρ l1) (w:=w') (fun q hq=>vT hq.2 (hq.1.elim (fun h=>h.1.2) (fun h=>m1.base q (.inr (Nat.le_trans m1.below.size h)))) (fun r j e=>by
     rcases hq.1 with h|h
     ·exact rD h r j e
     ·have:=m1.lt e;omega)) hr
    exact hq v w' E1 n1 (m2.trans n2) r2 r1
  ·exact ih (fun c hc=>hC c (List.mem_cons_of_mem _ hc)) h
theorem a0x:∀ {ks:List K} {l:List K0} {vs:List Value},DL ks=some l->(∀ k ∈ ks,k.wf ρ)->kZ (fun k v=>K.holds E ρ w k v) ks vs->nI (fz w E) E ρ w l vs/\∀ k ∈ l,NR ρ k
 | [],l,vs,h,hw,hk=>by
  simp only[DL,Option.some.injEq] at h
  subst h
  cases hk
  exact⟨rfl,fun k hk=>by cases hk⟩
 | k::ks,l,vs,h,hw,hk=>by
  cases hk
  rename_i v vs hv hvs
  have step:∀ k0 l',k0K k0=k->DL ks=some l'->l=k0::l'->nI (fz w E) E ρ w l (v::vs)/\∀ k ∈ l,NR ρ k:=fun k0 l' e1 e2 e3=>by
   obtain⟨i1,i2⟩:=a0x e2 (fun k hk=>hw k (List.mem_cons_of_mem _ hk)) hvs
   subst e3
   refine⟨⟨v,vs,rfl,CJ.2 (by rw[e1];exact hv),i1⟩,fun k' hk'=>?_⟩
   rcases List.mem_cons.1 hk' with rfl|hk'
   ·exact YW.2 (by rw[e1];exact hw k (List.mem_cons_self ..))
   ·exact i2 k' hk'
  cases k<;>try (simp[DL] at h;done)
  ·simp only[DL] at h
   split at h<;>first|(cases h;done)|skip
   simp only[Option.map_eq_some_iff] at h
   obtain⟨l',h1,h2⟩:=h
   exact step _ l' rfl h1 h2.symm
  all_goals
   simp only[DL,Option.map_eq_some_iff] at h
   obtain⟨l',h1,h2⟩:=h
   exact step _ l' rfl h1 h2.symm
theorem a4S:∀ {l:List K0} {ds:List Value},nI (fz w E) E ρ w l ds->kZ (fun k v=>K.holds E ρ w k v) (l.map k0K) ds
 | [],ds,h=>by rw[show ds=[] from h];exact .nil
 | k::l,ds,⟨v,vs',e1,e2,e3⟩=>by rw[e1];exact .cons (CJ.1 e2) (a4S e3)
theorem a5I {C:FuncId->List Ctr} (hC:∀ g,∀ c ∈ C g,aT P g c) {k:Operand->K} {a:Act} {o:Oper} {vc:List Prop} {kk:K} {l:List (Nat × Res)} (h:vC P C ρ k o.op=some (vc,kk,l)) (hv:aV vc) (hM:Mem E ρ W w) (hw:∀ x,(k x).wf ρ) (hk:∀ x,(k x).holds E ρ w (a.eval x)):BJ P E ρ W w o a kk l:=by
 cases ho:o.op<;>rw[ho] at h<;>try (simp[vC] at h;done)
 case makeFunc fn first caps =>
  cases fn<;>try (simp[vC] at h;done)
  rename_i g
  simp only[vC] at h
  split at h<;>first|(cases h;done)|skip
  rename_i hf
  have hf:first=#[]:=by simpa using hf
  subst hf
  have ha:kZ (fun k v=>K.holds E ρ w k v) (caps.toList.map k) (caps.toList.map a.eval):=by
   generalize caps.toList=cl
   induction cl with
   | nil=>exact .nil
   | cons x xs ih=>exact .cons (hk x) ih
  have harr:caps.map a.eval=(caps.toList.map a.eval).toArray:=by apply Array.ext';simp
  split at h
  ·rename_i p h1
   simp only[Option.some.injEq,Prod.mk.injEq] at h
   obtain⟨_,rfl,rfl⟩:=h
   have hr:=a4n h1 ha
   refine gG.steps (gG.of (s:=Instr.makeFunc (.func g) ((#[]:Array Operand).map a.eval) (caps.map a.eval)) (by simp only[execOp,ho]) ⟨.func (.func g) #[] (caps.map a.eval),w,E,by simp[Instr.makeFunc],hM,Ext.refl _ _ _,trivial,[.func (.func g) #[] (caps.map a.eval)],rfl,caps.toList.map a.eval,by rw[harr],hr⟩)
  ·simp only[Option.map_eq_some_iff,Prod.mk.injEq] at h
   obtain⟨l0,h1,_,rfl,rfl⟩:=h
   obtain⟨r1,r2⟩:=a0x h1 (fun k9 hk9=>by obtain⟨q,_,rfl⟩:=List.mem_map.1 hk9;exact hw q) ha
   exact gG.steps (gG.of (s:=Instr.makeFunc (.func g) ((#[]:Array Operand).map a.eval) (caps.map a.eval)) (by simp only[execOp,ho]) ⟨.func (.func g) #[] (caps.map a.eval),w,E,by simp[Instr.makeFunc],hM,Ext.refl _ _ _,r2,caps.toList.map a.eval,by rw[harr],r1⟩)
 case call c =>
  obtain⟨cl,xs,ts⟩:=c
  cases cl<;>try (simp[vC] at h;done)
  rename_i f
  simp only[vC] at h
  have a2U:=hk f
  have b9x:=hw f
  have key:∀ {g:FuncId} {ks:List K} {ds:List Value},a.eval f=.func (.func g) #[] ds.toArray->JY P g=true->DK ρ (xs.toList.map k++ks) (C g)=some (vc,kk,l)->(∀ k ∈ ks,k.wf ρ)->kZ (fun k v=>K.holds E ρ w k v) ks ds->BJ P E ρ W w o a kk l:=by
   intro g ks ds hfv he hcl hws hks
   have ha:kZ (fun k v=>K.holds E ρ w k v) (xs.toList.map k++ks) (xs.toList.map a.eval++ds):=by
    generalize xs.toList=cl
    induction cl with
    | nil=>exact hks
    | cons x xs ih=>exact .cons (hk x) ih
   intro next Q hn
   have hrun:(execOp a.eval o).run P w=.ok (.enter g ((xs.toList.map a.eval++ds).toArray)) w:=by
    have:(xs.map a.eval++ds.toArray)=(xs.toList.map a.eval++ds).toArray:=by apply Array.ext';simp
    simp only[execOp,ho,resolve,Deferred.ofValue,hfv,Sem.run_bind,Sem.run_pure,Result.andThen_ok,invoke]
    rw[<-this]
    simp only[Array.empty_append]
    exact VL he
   unfold Oper.wp
   rw[hrun,Oper.upon_enter]
   refine(a7z (fun c hc=>hC g c hc) hcl hv hM (fun k9 hk9=>?_) ha (Q:=fun e w'=>∃ v,e=.returned v/\next (a.put o.dst v) w') (fun v w' E' m1 m2 m3 m4=>⟨v,rfl,hn v w' E' m1 m2 m3 m4⟩)).mono ?_
   ·rcases List.mem_append.1 hk9 with hk9|hk9
    ·obtain⟨q,_,rfl⟩:=List.mem_map.1 hk9;exact hw q
    ·exact hws k9 hk9
   ·rintro e w' ⟨v,rfl,h⟩
    exact h
  split at h<;>first|(cases h;done)|skip
  ·rename_i g t cx hkf
   split at h<;>first|(cases h;done)|skip
   rename_i he
   simp only[Bool.and_eq_true] at he
   rw[hkf] at a2U
   obtain⟨cs,hfv,ds,hcs,hrep⟩:=a2U
   have hfv:a.eval f=.func (.func g) #[] ds.toArray:=by rw[hfv,hcs];rfl
   obtain⟨c1,c2⟩:=YC (E:=E) (ρ:=ρ) t cx ds he.2 hrep (fun q h=>h)
   exact key hfv he.1 h c2 c1
  ·rename_i g l0 hkf
   split at h<;>first|(cases h;done)|skip
   rename_i he
   rw[hkf] at a2U b9x
   obtain⟨ds,hfv,hrep⟩:=a2U
   exact key hfv he h (fun k9 hk9=>by
    obtain⟨q,hq,rfl⟩:=List.mem_map.1 hk9
    exact YW.1 (b9x q hq)) (a4S hrep)
end
end
end Go.Proofs.YtgplhbhfdgempaaGreat
