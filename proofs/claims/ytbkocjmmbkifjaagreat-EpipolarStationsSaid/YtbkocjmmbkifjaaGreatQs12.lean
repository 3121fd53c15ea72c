/-
  Lemmas for the theorem vstations28_holds, part 12 of 34.
-/
import Derived.Laws.IdiomCopy
import Derived.Test.YtbkocjmmbkifjaaGreatQs11
namespace Go.Proofs.YtbkocjmmbkifjaaGreat
open Go Go.RowKit
theorem Bj:type_of% @List.range_succ:=@List.range_succ
theorem yw:type_of% @List.not_mem_nil:=@List.not_mem_nil
theorem Eo:type_of% @or_false:=@or_false
section
set_option linter.unusedSimpArgs false
set_option linter.unusedVariables false
def zL (ids:Option (List Nat)) (n:Nat):Option (List Nat):=match ids with
 | none=>none
 | some l=>some (l++[n])
def ZW (r r2 v v2:Nat) (e e2:TypeId) (ty:Ty) (ids:Option (List Nat)) (xss:List (List ty.den)) (zs:List ty.den):MK:=some ([aN ids xss+1<=1000000000],.own r (nx v),[(r,.mat e e2 ty (zL ids xss.length) (xss++[zs]) (nx v)),(r2,.row e2 ty [] (nx v2))])
def TG (P:Program) (T:Told) (ρ:Nat->Res) (k:Operand->K) (d:Option Nat):Op->MK
 | .buildSlice t len parts=>match len,parts.toList with
  | 2,[(0,x),(1,y)]=>match k x,k y with
   | .ptr r o,.ptr r' o'=>match sliceB P t (.list .unit) 2 with
    | some _=>some ([],.pls [.ptr r o,.ptr r' o'],[])
    | none=>none
   | _,_=>none
  | _,_=>match d with
   | some r=>match T.mt r with
    | some ty=>match sliceB P t (.list ty) 0 with
     | some e=>match sliceB P e ty 0 with
      | some e2=>match len,parts.toList with
       | 0,[]=>if (ρ r).isNone&&ty.still then some ([],.own r 0,[(r,.mat e e2 ty none [] 0)]) else none
       | 1,[(0,y)]=>match k y with
        | .own r2 v2=>match ρ r2 with
         | .row _ _ _ v2'=>if gv v2==gv v2'&&sliceB P t (.list ty) 1==some e then some ([],.sng r2 v2,[]) else none
         | _=>none
        | _=>none
       | _,_=>none
      | none=>none
     | none=>none
    | none=>none
   | none=>none
 | .call { callee:=.builtin .append,args:=xs,argTypes:=ts }=>match xs.toList,ts.toList with
  | [s,x],[t,t']=>if t=t' then (match k x with
   | .sng r2 v2=>match ρ r2 with
    | .row e2' ty' ys v2'=>match k s,d with
     | .own r v,_=>match ρ r with
      | .mat e e2 ty ids xss v'=>match fU (.list ty') (.list ty) ys with
       | some zs=>if r2 != r&&gv v==gv v'&&gv v2==gv v2'&&e2'==e2&&sliceB P t (.list ty) 0==some e&&DV P e&&WB P e 1 then ZW r r2 v' v2' e e2 ty ids xss zs else none
       | none=>none
      | _=>none
     | .nil,some r=>match sliceB P t (.list ty') 0 with
      | some e=>if r2 != r&&gv v2==gv v2'&&(ρ r).isNone&&DV P e&&WB P e 1 then ZW r r2 0 v2' e e2' ty' none [] ys else none
      | none=>none
     | _,_=>none
    | _=>none
   | _=>none) else none
  | _,_=>none
 | _=>none
section
variable {P:Program} {E:Env} {ρ:Nat->Res} {W w:World}
theorem LC {α:Type} (ids:Option (List Nat)) (xss:List α) (y:α):bJ (zL ids xss.length) (xss++[y])=bJ ids xss++[xss.length]:=by
 cases ids with
 | none=>simp[zL,bJ,Bj]
 | some l=>rfl
theorem a5H {e e2 t:TypeId} {ty:Ty} {ids:Option (List Nat)} {xss:List (List ty.den)} {ys:List ty.den} {r r2 v v2 b:Nat} {s:Value} {cs0:List Value} {T0:TypeId} (hM:Mem E ρ W w)
  (hb:sliceB P t (.list ty) 0=some e) (hfew:DV P e=true) (hz:WB P e 1=true) (hne:r2≠r)
  (hr2:ρ r2=.row e2 ty ys v2) (hrv:ρ r=.none\/ρ r=.mat e e2 ty ids xss v)
  (k1:E.blk r=bI s) (k3:w.ownsRow 0 e 1 s (bJ ids xss).length cs0) (k4:cs0=(bJ ids xss).map (E.inn r)) (k5:CAv cO w s) (k6:∀ i ∈ bJ ids xss,i<xss.length) (k7:∀ i,xss.length<=i->bI (E.inn r i)=none)
  (k8:∀ i xs,xss[i]?=some xs->∃ cs,w.ownsRow 0 e2 ty.n (E.inn r i) xs.length cs/\chunks (rep (fz w E) w ty) cs xs/\CAv cO w (E.inn r i))
  (hbF:fz w E b) (hbr:w.rangeAt b 0 [E.sl r2]) (hlen:aN ids xss+1<=1000000000) :
  ∃ s' w' E',(Builtin.append_ #[t,t] T0 #[s,.slice (some ⟨b,0,none⟩) 1 1]).run P w=.ok s' w'/\Mem E' (bH (bH ρ r (.mat e e2 ty (zL ids xss.length) (xss++[ys]) (nx v))) r2 (.row e2 ty [] (nx v2))) W w'/\Ext E ρ w E' (bH (bH ρ r (.mat e e2 ty (zL ids xss.length) (xss++[ys]) (nx v))) r2 (.row e2 ty [] (nx v2))) w'/\s'=E'.sl r:=by
 obtain⟨h1,h2,h3,h4,i,z,h5,h6,h7⟩:=iW hb
 have h7:i.size=1:=h7
 have hzk:(∀ u ∈ z.cells.toList,cO u=true)/\z.cells.size=1:=by
  unfold WB at hz
  rw[h5] at hz
  simp only[h6,au,Bz,jf] at hz
  exact hz
 have a1Y:i.bytes<=100000:=by
  unfold DV at hfew
  rw[h5] at hfew
  simpa using hfew
 rw[<-zB] at hlen
 have q2:=hM.res r2
 rw[hr2] at q2
 obtain⟨p1,p2,cs2,p3,p4,p5,_⟩:=q2
 obtain⟨sp,sc,hsl2⟩:=qB p3
 have hok2:cO (E.sl r2)=true:=by rw[hsl2];exact JQ
 have hbytes:((bJ ids xss).length+1)*i.bytes<=140737488355328:=by
  have h9:((bJ ids xss).length+1)*i.bytes<=1000000000*100000:=xq hlen a1Y
  omega
 obtain⟨g,cap',w',hrun,a1,a2,a3,a4⟩:=EL (P:=P) (p:=cO) w 0 t T0 e i z 1 i.bytes h1 h5 h6 h7 rfl hzk.2 (by omega) hzk.1 s (bJ ids xss).length cs0 k3 k5 ⟨b,0,none⟩ 1 1 [E.sl r2] rfl (fun j u hu=>by
   have:=hbr j u hu
   rw[Bc];exact this) (fun u hu=>by
   rw[tq.1 hu]
   simp only[cO,au] at hok2;exact hok2.1) (fun u hu=>by rw[tq.1 hu];exact hok2) (by omega) (by simp only[maxLen];omega) hbytes (uq _)
 have hcnt:(ρ r).cnt<=xss.length:=by
  rcases hrv with h|h
  ·rw[h];exact uq _
  ·rw[h];exact ay _
 have hgo:jI E w w' (fun q=>q=r\/q=r2):=⟨a2.os,a2.tape,a2.output,a2.size,fun q hq hn=>a2.block q hq (fun e9=>hn r 0 (.inl rfl) (by show E.blk r=some q;rw[k1,lJ,<-e9])),fun q o' n hc=>by
  by_cases e9:s.ownBlock=some q
  ·have:=k5 q e9 _ _ hc
   simp[cO,dA] at this
  ·rw[<-hc]
   exact Dp (w:=w) (a2.block q (cell_lt hc) (fun e8=>e9 e8.symm))⟩
 have hg:E.has r 0 g\/w.heap.size<=g:=by
  rcases a4 with h|h
  ·exact .inl (by show E.blk r=some g;rw[k1,lJ];exact h)
  ·exact .inr (by omega)
 let s':Value:=.slice (some ⟨g,0,none⟩) ((bJ ids xss).length+1) cap'
 let E':Env:=(E.rC r (some g) s' (bH (E.inn r) xss.length (E.sl r2))).put r2 none (.slice none 0 0)
 let ρ':=bH (bH ρ r (.mat e e2 ty (zL ids xss.length) (xss++[ys]) (nx v))) r2 (.row e2 ty [] (nx v2))
 have hnr:r≠r2:=fun e=>hne e.symm
 have a1X:E'.blk r=some g:=by show bH (bH E.blk r _) r2 _ r=_;rw[aQ _ _ hnr,aG]
 have a0t:E'.sl r=s':=by show bH (bH E.sl r _) r2 _ r=_;rw[aQ _ _ hnr,aG]
 have yK:E'.inn r=bH (E.inn r) xss.length (E.sl r2):=by show bH (bH E.inn r _) r2 _ r=_;rw[aQ _ _ hnr,aG]
 have a0:E'.blk r2=none:=aG _ _ _
 have RX:E'.sl r2=.slice none 0 0:=aG _ _ _
 have b0:E'.inn r2=fun _=>undef:=aG _ _ _
 have hE:∀ q,¬ (q=r\/q=r2)->E'.blk q=E.blk q/\E'.sl q=E.sl q/\E'.inn q=E.inn q/\ρ' q=ρ q:=fun q hq=>by
  have n1:q≠r:=fun e=>hq (.inl e)
  have n2:q≠r2:=fun e=>hq (.inr e)
  exact⟨(aQ _ _ n2).trans (aQ _ _ n1),(aQ _ _ n2).trans (aQ _ _ n1),(aQ _ _ n2).trans (aQ _ _ n1),(aQ _ _ n2).trans (aQ _ _ n1)⟩
 have a0x:∀ j b,¬ E'.has r2 j b:=fun j b hh=>by
  cases j with
  | zero=>have hh:E'.blk r2=some b:=hh;rw[a0] at hh;cases hh
  | succ j=>have hh:bI (E'.inn r2 j)=some b:=hh;rw[b0] at hh;cases hh
 have hmap:∀ j b,E'.has r j b->(j=0/\b=g)\/(j=xss.length+1/\E.has r2 0 b)\/(j≠0/\j≠xss.length+1/\E.has r j b):=fun j b hh=>by
  cases j with
  | zero=>have hh:E'.blk r=some b:=hh;rw[a1X] at hh;cases hh;exact .inl ⟨rfl,rfl⟩
  | succ j =>
   have hh:bI (E'.inn r j)=some b:=hh
   rw[yK] at hh
   by_cases ej:j=xss.length
   ·subst ej
    rw[aG] at hh
    exact .inr (.inl ⟨rfl,p1.trans hh⟩)
   ·rw[aQ _ _ ej] at hh
    exact .inr (.inr ⟨by omega,by omega,hh⟩)
 have hF:∀ q,fz w E q->fz w' E' q:=sZ (S:=fun q=>q=r\/q=r2) hgo.size rfl (fun q hq=>⟨(hE q hq).1,(hE q hq).2.2.1⟩) (fun r' j q e hh=>by
  rcases e with rfl|rfl
  ·rcases hmap j q hh with⟨_,rfl⟩|⟨_,h⟩|⟨_,_,h⟩
   ·exact hg.imp (fun h=>⟨_,_,h⟩) id
   ·exact .inl ⟨_,_,h⟩
   ·exact .inl ⟨_,_,h⟩
  ·exact(a0x j q hh).elim)
 have hnb:∀ r' j q,E.has r' j q->(r'≠r\/j≠0)->w'.heap[q]?=w.heap[q]?:=fun r' j q hh hj=>a2.block q (hM.lt hh) (fun e9=>by
  have h0:E.has r 0 q:=by show E.blk r=some q;rw[k1,lJ,<-e9]
  have:=hM.inj _ _ _ _ _ hh h0
  rcases hj with hj|hj
  ·exact hj this.1
  ·exact hj this.2)
 have KZ:ρ' r=.mat e e2 ty (zL ids xss.length) (xss++[ys]) (nx v):=(aQ _ _ hnr).trans (aG _ _ _)
 have zK:ρ' r2=.row e2 ty [] (nx v2):=aG _ _ _
 have hx:lT E' w' r (.mat e e2 ty (zL ids xss.length) (xss++[ys]) (nx v)):=by
  refine⟨by rw[a0t,a1X];rfl,p2,⟨cs0++[E.sl r2],?_,?_,by rw[a0t];intro g' hg';cases hg';exact a3⟩,fun x hx=>?_,fun j hj=>?_,fun j zs hj=>?_⟩
  ·rw[a0t,LC,jl];exact a1
  ·rw[yK,k4,LC,List.map_append,zf,List.map_nil,aG]
   congr 1
   refine qj (fun x hx=>?_)
   have:=k6 x hx
   rw[aQ _ _ (by omega)]
  ·rw[LC] at hx
   rw[jl]
   rcases um.1 hx with hx|hx
   ·have:=k6 x hx;simp;omega
   ·rw[tq.1 hx];simp
  ·rw[jl,List.length_singleton] at hj
   rw[yK,aQ _ _ (by omega)]
   exact k7 j (by omega)
  ·rw[yK]
   by_cases ej:j=xss.length
   ·subst ej
    rw[Eh (ay _),Nat.sub_self] at hj
    cases hj
    rw[aG]
    have hb1:∀ b,bI (E.sl r2)=some b->w'.heap[b]?=w.heap[b]?:=fun b hb=>hnb r2 0 b (p1.trans hb) (.inl hne)
    exact⟨cs2,dS p3 hb1,aW (fun c y=>bW hF hgo.stay ty c y) _ _ p4,iT p5 hb1⟩
   ·have hj2:xss[j]?=some zs:=by
     by_cases hjl:j<xss.length
     ·rwa [Ap hjl] at hj
     ·rw[xg (by rw[jl,List.length_singleton];omega)] at hj;cases hj
    rw[aQ _ _ ej]
    obtain⟨cs9,r1,r2,r3⟩:=k8 j zs hj2
    have hb1:∀ b,bI (E.inn r j)=some b->w'.heap[b]?=w.heap[b]?:=fun b hb=>hnb r (j+1) b hb (.inr (by omega))
    exact⟨cs9,dS r1 hb1,aW (fun c y=>bW hF hgo.stay ty c y) _ _ r2,iT r3 hb1⟩
 have hx2:lT E' w' r2 (.row e2 ty [] (nx v2)):=⟨by rw[a0,RX];rfl,p2,[],by rw[RX];exact Bd _ _ _ _,rfl,by rw[RX];exact⟨fun g hg=>(by cases hg),a5P _ _⟩⟩
 have hgl:∀ j b,j≠0->E.has r j b->b≠g:=fun j b hj hh e9=>by
  subst e9
  rcases hg with h|h
  ·exact hj (hM.inj _ _ _ _ _ hh h).2
  ·have:=hM.lt hh;omega
 have c2P:∀ b,E.has r2 0 b->b≠g:=fun b hh e9=>by
  subst e9
  rcases hg with h|h
  ·exact hne (hM.inj _ _ _ _ _ hh h).1
  ·have:=hM.lt hh;omega
 obtain⟨m1,m2⟩:=hM.turns (E':=E') (ρ':=ρ') (w':=w') (fun q=>q=r\/q=r2) hgo hE rfl rfl rfl (fun r' j b e hh=>by
   rcases e with rfl|rfl
   ·rcases hmap j b hh with⟨_,rfl⟩|⟨_,h⟩|⟨_,_,h⟩
    ·exact hg.imp (fun h=>⟨_,_,.inl rfl,h⟩) id
    ·exact .inl ⟨_,_,.inr rfl,h⟩
    ·exact .inl ⟨_,_,.inl rfl,h⟩
   ·exact(a0x j b hh).elim) (fun r' j r'' j' b e' e'' hh hh'=>by
   rcases e' with rfl|rfl
   ·rcases e'' with rfl|rfl
    ·refine⟨rfl,?_⟩
     rcases hmap j b hh with⟨q1,q2⟩|⟨q1,q2⟩|⟨q1,q0,q2⟩<;>rcases hmap j' b hh' with⟨q3,q4⟩|⟨q3,q4⟩|⟨q3,q5,q4⟩
     ·omega
     ·exact absurd q2 (c2P _ q4)
     ·exact absurd q2 (hgl _ _ q3 q4)
     ·exact absurd q4 (c2P _ q2)
     ·omega
     ·exact absurd (hM.inj _ _ _ _ _ q2 q4).1 hne
     ·exact absurd q4 (hgl _ _ q1 q2)
     ·exact absurd (hM.inj _ _ _ _ _ q4 q2).1 hne
     ·exact(hM.inj _ _ _ _ _ q2 q4).2
    ·exact(a0x j' b hh').elim
   ·exact(a0x j b hh).elim) (fun r' i' e' hc=>by
   rcases e' with rfl|rfl
   ·rw[KZ] at hc
    have hc:(xss++[ys]).length<=i':=hc
    rw[jl,List.length_singleton] at hc
    rw[yK,aQ _ _ (by omega)]
    exact k7 i' (by omega)
   ·rw[b0];rfl) (fun r' e' h=>by
   rcases e' with rfl|rfl
   ·rcases hrv with h9|h9<;>(rw[h9] at h;exact h.elim)
   ·rw[hr2] at h;exact h.elim) (fun r' e' h=>by
   rcases e' with rfl|rfl
   ·rcases hrv with h9|h9<;>(rw[h9] at h;exact h.elim)
   ·rw[hr2] at h;exact h.elim) (fun r' v' e' h=>by
   rcases e' with rfl|rfl
   ·rw[KZ]
    rcases hrv with h9|h9
    ·rw[h9] at h;exact h.elim
    ·rw[h9] at h;exact iq h (a2q _)
   ·rw[hr2] at h;rw[zK];exact iq h (a2q _)) (fun r' v' e' h h'=>by
   rcases e' with rfl|rfl
   ·rw[KZ] at h'
    have h':gv (nx v)=gv v':=h'
    rcases hrv with h9|h9
    ·rw[h9] at h;exact h.elim
    ·rw[h9] at h
     have h:v'<=v:=h
     have:=IC h
     have:=XK v
     omega
   ·rw[hr2] at h;rw[zK] at h'
    have h:v'<=v2:=h
    have h':gv (nx v2)=gv v':=h'
    have:=IC h
    have:=XK v2
    omega) (fun r' v' e' h h'=>by
   rcases e' with rfl|rfl
   ·rw[KZ] at h'
    have h':nx v=v':=h'
    rcases hrv with h9|h9
    ·rw[h9] at h;exact h.elim
    ·rw[h9] at h
     have h:v'<=v:=h
     have:=IC h
     have:=XK v
     rw[<-h'] at h
     have:=IC h
     omega
   ·rw[zK] at h';exact h'.elim) (fun r' e'=>by
   rcases e' with rfl|rfl
   ·rw[KZ];exact hx
   ·rw[zK];exact hx2) (fun _ r' k e' h=>by
   rcases e' with rfl|rfl
   ·rw[KZ] at h;cases h
   ·rw[zK] at h;cases h)
 exact⟨s',w',E',hrun,m1,m2,a0t.symm⟩
theorem b4g {T:Told} {k:Operand->K} {ev:Operand->Value} {o:Oper} {vc:List Cd} {kk:K} {l:List (Nat × Res)} (h:TG P T ρ k o.dst o.op=some (vc,kk,l)) (hv:dJ vc) (hM:Mem E ρ W w) (hw:∀ x,(k x).wf ρ) (hk:∀ x,(k x).holds E ρ w (ev x)):dV P E ρ W w o ev kk l:=by
 cases ho:o.op<;>rw[ho] at h<;>try (simp[TG] at h;done)
 case buildSlice t len parts =>
  simp only[TG] at h
  split at h
  ·rename_i x y hp
   have hp:parts=#[(0,x),(1,y)]:=by apply Dk;simpa using hp
   subst hp
   split at h<;>try(cases h;done)
   rename_i r o r' o' hx hy
   split at h<;>try(cases h;done)
   rename_i e he
   simp only[ak,dh] at h
   obtain⟨_,rfl,rfl⟩:=h
   have hkx:=hk x
   have hky:=hk y
   have hwx:=hw x
   have hwy:=hw y
   rw[hx] at hkx hwx
   rw[hy] at hky hwy
   obtain⟨b1,g1,e1⟩:=hkx
   obtain⟨b2,g2,e2⟩:=hky
   have hrun:=run_buildSlice (P:=P) (w:=w) (t:=t) (ty:=.list .unit) (xs:=[]) (vs:=[ev x,ev y]) (ps:=[]) (n:=2) he rfl (.cons ⟨by simp,by rw[e1];rfl⟩ (.cons ⟨by simp,by rw[e2];rfl⟩ .nil))
   have hL:(List.map (fun v=>Value.cells v |>.toList) [ev x,ev y]).flatten=[ev x,ev y]:=by rw[e1,e2];rfl
   rw[hL] at hrun
   have hb:Below w.heap.size w (w.alloc (.cells [ev x,ev y].toArray e)):=(jo _ _).alloc (ay _) _
   have hcell:(w.alloc (.cells [ev x,ev y].toArray e)).heap[w.heap.size]?=some (.cells [ev x,ev y].toArray e (0,0)):=Ci w _
   obtain⟨m1,m2⟩:=hM.grows hb
   refine dV.of (s:=Instr.buildSlice t 2 #[(0,ev x),(1,ev y)]) (by simp[execOp,ho]) ⟨_,_,E,hrun,m1,m2,?_,w.heap.size,[ev x,ev y],rfl,qW (by simp) (hM.base _ (.inr hM.below.size)) (fun r' j hh=>by have:=hM.lt hh;omega),fun j u hu=>?_,ev x,[ev y],rfl,⟨b1,g1,e1⟩,ev y,[],rfl,⟨b2,g2,e2⟩,rfl⟩
   ·intro k hk
    simp only[qh,yw,Eo] at hk
    rcases hk with rfl|rfl
    ·exact hwx
    ·exact hwy
   ·rw[tu,yu _ _ _ _ _ _ hcell];simpa using hu
  split at h<;>try(cases h;done)
  rename_i r hd
  split at h<;>try(cases h;done)
  rename_i ty hty
  split at h<;>try(cases h;done)
  rename_i e hsb
  split at h<;>try(cases h;done)
  rename_i e2 c4V
  split at h<;>try(cases h;done)
  ·rename_i hp _
   have hp:parts=#[]:=by apply Dk;simpa using hp
   subst hp
   split at h<;>try(cases h;done)
   rename_i hc
   simp only[au] at hc
   simp only[ak,dh] at h
   obtain⟨_,rfl,rfl⟩:=h
   have hρ:=Res.lN hc.1
   have hrun:=run_buildSlice (P:=P) (w:=w) (t:=t) (ty:=.list ty) (xs:=[]) (vs:=[]) (ps:=[]) (n:=0) hsb rfl .nil
   obtain⟨w1,w2,w3⟩:=FB (w:=w) (e:=e) (n:=0) (m:=1) (L:=[]) rfl (by omega) (fun u hu=>by cases hu)
   have hsl:(E.rC r (some w.heap.size) (.slice (some ⟨w.heap.size,0,none⟩) 0 0) (fun _=>undef)).sl r=.slice (some ⟨w.heap.size,0,none⟩) 0 0:=aG _ _ _
   have hin:(E.rC r (some w.heap.size) (.slice (some ⟨w.heap.size,0,none⟩) 0 0) (fun _=>undef)).inn r=fun _=>undef:=aG _ _ _
   obtain⟨m1,m2⟩:=hM.EM (w':=w.alloc (.cells ([]:List Value).toArray e)) r (jI.below w1 _) (some w.heap.size) (.slice (some ⟨w.heap.size,0,none⟩) 0 0) (fun _=>undef) (.mat e e2 ty none [] 0)
    ⟨by rw[hsl];show bH E.blk r _ r=_;rw[aG];rfl,hc.2,⟨[],by rw[hsl];exact w2,rfl,by rw[hsl];exact w3⟩,fun x hx=>by simp[bJ] at hx,fun j _=>by rw[hin];rfl,fun j xs hj=>by simp at hj⟩ (fun q hq=>by
     rcases hq with hq|⟨j,hq⟩
     ·cases hq;exact .inr (ay _)
     ·cases hq) (fun q j _ hq=>by cases hq) (fun j j' q hq=>by cases hq) (fun j _=>rfl) (fun h=>by rw[hρ] at h;exact h.elim) (fun h=>by rw[hρ] at h;exact h.elim) (fun v h=>by rw[hρ] at h;exact h.elim) (fun v h=>by rw[hρ] at h;exact h.elim) (fun v h=>by rw[hρ] at h;exact h.elim) (fun _ k e=>by cases e)
   refine dV.of (s:=Instr.buildSlice t 0 #[]) (by simp[execOp,ho]) ⟨_,_,_,hrun,m1,m2,?_,fun _=>hsl.symm⟩
   show Res.dW 0 (bH ρ r _ r)
   rw[aG]
   exact ay 0
  ·rename_i y hp _
   have hp:parts=#[(0,y)]:=by apply Dk;simpa using hp
   subst hp
   split at h<;>try(cases h;done)
   rename_i r2 v2 hy
   split at h<;>try(cases h;done)
   rename_i e9 t9 xs9 v9 hr2
   split at h<;>try(cases h;done)
   rename_i hc
   simp only[au,jf] at hc
   obtain⟨hv9,c4T⟩:=hc
   simp only[ak,dh] at h
   obtain⟨_,rfl,rfl⟩:=h
   have hky:=hk y
   have hwy:=hw y
   rw[hy] at hky hwy
   have hyv:ev y=E.sl r2:=hky (by rw[hr2];exact hv9.symm)
   have h2:=hM.res r2
   rw[hr2] at h2
   obtain⟨_,_,cs2,p3,p4,_⟩:=h2
   obtain⟨sp,sc,hsl2⟩:=qB p3
   have hcells:(ev y).cells.toList=[E.sl r2]:=by rw[hyv,hsl2];rfl
   have hrun:=run_buildSlice (P:=P) (w:=w) (t:=t) (ty:=.list ty) (xs:=[]) (vs:=[ev y]) (ps:=[]) (n:=1) c4T rfl (.cons ⟨by simp,by show (ev y).cells.toList.length=1;rw[hcells];rfl⟩ .nil)
   have hL:(List.map (fun v=>Value.cells v |>.toList) [ev y]).flatten=[E.sl r2]:=by simp[hcells]
   rw[hL] at hrun
   have hb:Below w.heap.size w (w.alloc (.cells [E.sl r2].toArray e)):=(jo _ _).alloc (ay _) _
   have hcell:(w.alloc (.cells [E.sl r2].toArray e)).heap[w.heap.size]?=some (.cells [E.sl r2].toArray e (0,0)):=Ci w _
   obtain⟨m1,m2⟩:=hM.grows hb
   refine dV.of (s:=Instr.buildSlice t 1 #[(0,ev y)]) (by simp[execOp,ho]) ⟨_,_,E,hrun,m1,m2,hwy,fun _=>⟨w.heap.size,rfl,qW (by simp) (hM.base _ (.inr hM.below.size)) (fun r' j hh=>by have:=hM.lt hh;omega),fun j u hu=>?_⟩⟩
   rw[tu,yu _ _ _ _ _ _ hcell];simpa using hu
 case call c =>
  obtain⟨cl,xs,ts⟩:=c
  cases cl<;>try (simp[TG] at h;done)
  rename_i bi
  cases bi<;>try (simp[TG] at h;done)
  simp only[TG] at h
  split at h<;>try(cases h;done)
  rename_i s x t t' hxs hts
  have exs:xs=#[s,x]:=by rw[<-Array.toArray_toList (xs:=xs),hxs]
  have ets:ts=#[t,t']:=by rw[<-Array.toArray_toList (xs:=ts),hts]
  subst exs ets
  split at h<;>try(cases h;done)
  rename_i htt
  subst htt
  split at h<;>try(cases h;done)
  rename_i r2 v2 hx
  split at h<;>try(cases h;done)
  rename_i e2' ty' ys v2' hr2
  have hkx:=hk x
  rw[hx] at hkx
  split at h<;>try(cases h;done)
  ·rename_i _ r v hs
   have hks:=hk s
   rw[hs] at hks
   split at h<;>try(cases h;done)
   rename_i e e2 ty ids xss v' hr
   split at h<;>try(cases h;done)
   rename_i zs hcast
   split at h<;>try(cases h;done)
   rename_i hc
   simp only[au,jf,jy,ne_eq] at hc
   obtain⟨⟨⟨⟨⟨⟨c1,c2⟩,c3⟩,c4⟩,c5⟩,c6⟩,c7⟩:=hc
   subst c4
   obtain⟨e9,hcast⟩:=dL hcast
   simp only[Ty.list.injEq] at e9
   subst e9
   have hcast:ys=zs:=hcast
   subst hcast
   simp only[ZW,ak,dh] at h
   obtain⟨rfl,rfl,rfl⟩:=h
   obtain⟨b,hxv,hbF,hbr⟩:=hkx (by rw[hr2];exact c3.symm)
   have hsv:ev s=E.sl r:=hks (by rw[hr];exact c2.symm)
   have h1:=hM.res r
   rw[hr] at h1
   obtain⟨k1,k2,⟨cs0,k3,k4,k5⟩,k6,k7,k8⟩:=h1
   obtain⟨s',w',E',g1,g2,g3,g4⟩:=a5H (T0:=o.type) hM c5 c6 c7 c1 hr2 (.inr hr) k1 k3 k4 k5 k6 k7 k8 hbF hbr hv.1
   refine dV.of (jR ho) ⟨s',w',E',by rw[hsv,hxv];exact g1,g2,g3,?_,fun _=>g4⟩
   show Res.dW (nx v') (bH (bH ρ r _) r2 _ r)
   rw[aQ _ _ (fun e=>c1 e.symm),aG]
   exact ay _
  ·rename_i r hs hd
   have hks:=hk s
   rw[hs] at hks
   split at h<;>try(cases h;done)
   rename_i e hsb
   split at h<;>try(cases h;done)
   rename_i hc
   simp only[au,jf,jy,ne_eq] at hc
   obtain⟨⟨⟨⟨c1,c3⟩,c4⟩,c6⟩,c7⟩:=hc
   simp only[ZW,ak,dh] at h
   obtain⟨rfl,rfl,rfl⟩:=h
   obtain⟨b,hxv,hbF,hbr⟩:=hkx (by rw[hr2];exact c3.symm)
   have hsv:ev s=.slice none 0 0:=hks
   have hr:=Res.lN c4
   have h1:=hM.res r
   rw[hr] at h1
   obtain⟨s',w',E',g1,g2,g3,g4⟩:=a5H (T0:=o.type) (ids:=none) (xss:=[]) (v:=0) (s:=.slice none 0 0) (cs0:=[]) hM hsb c6 c7 c1 hr2 (.inl hr) h1 (Bd w _ _ _) rfl (fun g hg=>by cases hg) (fun i hi=>by simp[bJ] at hi) (fun i _=>hM.inner r i (by rw[hr];exact uq _)) (fun i xs hi=>by simp at hi) hbF hbr hv.1
   refine dV.of (jR ho) ⟨s',w',E',by rw[hsv,hxv];exact g1,g2,g3,?_,fun _=>g4⟩
   show Res.dW (nx 0) (bH (bH ρ r _) r2 _ r)
   rw[aQ _ _ (fun e=>c1 e.symm),aG]
   exact ay _
end
end
section
set_option linter.unusedSimpArgs false
set_option linter.unusedVariables false
def vM (P:Program) (ρ:Nat->Res) (k:Operand->K):Op->MK
 | .call { callee:=.builtin .copy,args:=xs,argTypes:=ts }=>match xs.toList,ts.toList with
  | [x,y],[t,_]=>match k x,k y with
   | .mrow r v id,.val (.list ty') ys=>match ρ r with
    | .mat e e2 ty ids xss v'=>match fU (.list ty') (.list ty) ys with
     | some zs=>if v==v'&&lZ P t none ty then some ([List.length (α:=ty.den) (rowAt (α:=ty.den) xss id)=List.length (α:=ty.den) zs,0<List.length (α:=ty.den) zs],.val (.int .i64) ((List.length (α:=ty.den) zs:Nat):Int),[(r,.mat e e2 ty ids (List.set (α:=List ty.den) xss id zs) v')]) else none
     | none=>none
    | _=>none
   | _,_=>none
  | _,_=>none
 | .call { callee:=.builtin .append,args:=xs,argTypes:=ts }=>match xs.toList,ts.toList with
  | [x,y],[t,t']=>match k x,k y with
   | .own r v,.val (.list ty') ys=>match ρ r with
    | .mat e e2 ty none xss v'=>match fU (.list ty') (.list (.list ty)) ys with
     | some zs=>if decide (t=t')&&gv v==gv v'&&(sliceB P t (.list ty) 0==some e)&&DV P e&&WB P e 1 then
       some ([List.length (α:=List ty.den) xss+List.length (α:=List ty.den) zs<=1000000000],.own r (nx (nx v')),[(r,.row e (.list ty) xss (nx v')),(r,.row e (.list ty) (wI (.list ty) xss zs) (nx (nx v')))])
       else none
     | none=>none
    | .row e ty xs v'=>if decide (t=t')&&gv v==gv v'&&(sliceB P t ty 0==some e)&&(sliceB P t ty' 0==some e)&&DV P e&&WB P e ty'.n&&ty'.still then
      some ([List.length (α:=ty.den) xs=0,List.length (α:=ty'.den) ys<=1000000000],.own r (nxf v'),[(r,.row e ty' ys (nxf v'))]) else none
    | _=>none
   | _,_=>none
  | _,_=>none
 | _=>none
section
variable {P:Program} {E:Env} {ρ:Nat->Res} {W w:World}
theorem a7J {e:TypeId} {n m g:Nat} {v:Value} {cs ds:List Value} (h:w.ownsRow 0 e n v m cs) (hg:bI v=some g) (hl:ds.length=m*n):(w.setCells g 0 ds).ownsRow 0 e n v m ds:=by
 obtain⟨cap,rest,rfl,h1,h2,h3,h4⟩:=owns_block h hg
 have hlen:=h.1
 have hh:=jA g ds 0 w (cs++rest) e h3 (by rw[jl];omega)
 have e1:(cs++rest).take 0++ds++(cs++rest).drop (0+ds.length)=ds++rest:=by
  rw[tu,List.drop_append_of_le_length (by omega),List.drop_of_length_le (by omega)]
  simp
 rw[e1] at hh
 refine⟨hl,.inr ⟨g,cap,_,rfl,uq _,hh,h1,h2,?_,?_⟩⟩
 ·rw[Cj,jl,hl,<-h4,jl];omega
 ·show List.take (m*n) _=_
  rw[<-hl]
  exact Ce
theorem a9I {r v id g:Nat} {e e2:TypeId} {ty:Ty} {ids:Option (List Nat)} {xss:List (List ty.den)} {zs:List ty.den} {ds:List Value} (hM:Mem E ρ W w) (hr:ρ r=.mat e e2 ty ids xss v) (hid:id<xss.length) (hg:bI (E.inn r id)=some g) (hz:zs.length=(rowAt xss id).length) (hd:chunks (rep (fz w E) w ty) ds zs) :
  ∃ E',Mem E' (bH ρ r (.mat e e2 ty ids (xss.set id zs) v)) W (w.setCells g 0 ds)/\Ext E ρ w E' (bH ρ r (.mat e e2 ty ids (xss.set id zs) v)) (w.setCells g 0 ds)/\w.there g 0 ds.length/\ty.still=true:=by
 have h1:=hM.res r
 rw[hr] at h1
 obtain⟨k1,k2,⟨cs0,k3,k4,k5⟩,k6,k7,k8⟩:=h1
 obtain⟨cs,q1,q2,q3⟩:=mG hM hr hid
 have hl:ds.length=(rowAt xss id).length*ty.n:=by rw[<-hz];exact mX (fun c y=>dI ty c y) _ _ hd
 obtain⟨cap,rest,e1,e2',e3,e4,e5⟩:=owns_block q1 hg
 have hhas:E.has r (id+1) g:=hg
 have hgo:=wG (S:=fun q=>q=r) (vs:=ds) (o:=0) rfl hhas e4 (uF q3 hg e4)
 have hF:∀ q,fz w E q->fz (w.setCells g 0 ds) (E.rC r (E.blk r) (E.sl r) (E.inn r)) q:=sZ (S:=fun q=>q=r) hgo.size rfl (fun q hq=>⟨aQ _ _ hq,aQ _ _ hq⟩) (fun r' j q e hh=>by
  subst e
  rw[mD,jm rfl] at hh
  cases j with
  | zero=>exact .inl ⟨r',0,hh⟩
  | succ j=>exact .inl ⟨r',j+1,hh⟩)
 have hcl:=q1.1
 have a0v:0+ds.length<=(cs++rest).length:=by rw[jl];omega
 have hne:∀ j q,E.has r j q->j≠id+1->(w.setCells g 0 ds).heap[q]?=w.heap[q]?:=fun j q hh hj=>(mJ g ds _ w).2.2.2.2 q (fun e=>hj ((hM.inj _ _ _ _ _ hh (by subst e;exact hhas)).2))
 have hlen:(bJ ids (xss.set id zs))=bJ ids xss:=by
  cases ids with
  | none=>simp[bJ]
  | some l=>rfl
 have zJ:(E.rC r (E.blk r) (E.sl r) (E.inn r)).inn r=E.inn r:=aG _ _ _
 have hsl:(E.rC r (E.blk r) (E.sl r) (E.inn r)).sl r=E.sl r:=aG _ _ _
 have hx:lT (E.rC r (E.blk r) (E.sl r) (E.inn r)) (w.setCells g 0 ds) r (.mat e e2 ty ids (xss.set id zs) v):=by
  have hb0:∀ b,bI (E.sl r)=some b->(w.setCells g 0 ds).heap[b]?=w.heap[b]?:=fun b hb=>hne 0 b (k1.trans hb) (by simp)
  refine⟨by rw[hsl];show bH E.blk r _ r=_;rw[aG];exact k1,k2,⟨cs0,?_,by rw[zJ,hlen];exact k4,by rw[hsl];exact iT k5 hb0⟩,by rw[hlen,gy];exact k6,by rw[zJ,gy];exact k7,fun j ys hj=>?_⟩
  ·rw[hsl,hlen];exact dS k3 hb0
  ·rw[zJ]
   rw[List.getElem?_set] at hj
   split at hj
   ·rename_i ej
    subst ej
    simp only[hid,Dl,ak] at hj
    subst hj
    exact⟨_,by rw[hz];exact a7J q1 hg hl,aW (fun c y=>bW hF hgo.stay ty c y) _ _ hd,QK q3 hg e4 a0v (a0b k2 hd)⟩
   ·rename_i ej
    obtain⟨cs9,r1,r2,r3⟩:=k8 j ys hj
    have hb1:∀ b,bI (E.inn r j)=some b->(w.setCells g 0 ds).heap[b]?=w.heap[b]?:=fun b hb=>hne (j+1) b hb (by omega)
    exact⟨cs9,dS r1 hb1,aW (fun c y=>bW hF hgo.stay ty c y) _ _ r2,iT r3 hb1⟩
 obtain⟨m1,m2⟩:=hM.EM (w':=w.setCells g 0 ds) r hgo (E.blk r) (E.sl r) (E.inn r) _ hx (fun q hq=>.inl (by
   rcases hq with hq|⟨j,hq⟩
   ·exact⟨0,hq⟩
   ·exact⟨j+1,hq⟩)) (fun q j h1 h2=>by have:=(hM.inj r 0 r (j+1) q h1 h2).2;omega) (fun j j' q h1 h2=>by have:=(hM.inj r (j+1) r (j'+1) q h1 h2).2;omega) (fun j hj=>hM.inner r j (by rw[hr];simpa [Res.cnt] using hj))
  (fun h=>by rw[hr] at h;exact h.elim) (fun h=>by rw[hr] at h;exact h.elim) (fun v' h=>by rw[hr] at h;exact h) (fun v' h h'=>⟨by rw[hr];exact h',rfl,by rw[hr];rfl⟩) (fun v' h h'=>⟨by rw[hr];exact h',by rw[hr];rfl,by rw[hr];simp[Res.cnt],fun _ _=>rfl⟩) (fun _ k e=>by cases e)
 refine⟨_,m1,m2,fun j hj=>?_,k2⟩
 have hj2:j<(cs++rest).length:=by rw[jl];omega
 rw[tu]
 refine⟨?_,?_⟩
 ·rw[yu w g j _ _ _ e4]
  simp[jc hj2]
 ·simp[World.frozen?,e4]
theorem run_copy_row {dT sT T elem:TypeId} {i:TypeInfo} {n m g c o b c':Nat} {cs:List Value} (hu:P.underlying dT=some (.slice elem)) (hi:P.info? elem=some i) (hn:i.size=n) (hl:cs.length=m*n)
  (hsrc:w.rangeAt b o cs) (ht:w.there g 0 cs.length) (h1:∀ v ∈ cs,v.oneCell'=true) :
  (Builtin.copy_ #[dT,sT] T #[.slice (some ⟨g,0,none⟩) m c,.slice (some ⟨b,o,none⟩) m c']).run P w=.ok (goInt m) (w.setCells g 0 cs):=by
 have h2:=run_firstCells_some (P:=P) (w:=w) n m ⟨b,o,none⟩ m c' cs hl (fun j v hv=>by rw[Bc];exact hsrc j v hv)
 have hst:=run_storeCells_cells (P:=P) g 0 cs 0 w (fun j hj=>by have:=(ht j hj).1;simpa using this) (fun j hj=>by have:=(ht j hj).2;simpa using this) h1
 have h4:Nat.min m m=m:=Nat.min_self m
 simp[Builtin.copy_,qo hu,Builtin.lenOf,sizeOf,typeInfo,hi,hn,h2,hst,jq,h4]
theorem b2J {r ver:Nat} {e e2:TypeId} {t:Ty} {xss:List (List t.den)} (hM:Mem E ρ W w) (hr:ρ r=.mat e e2 t none xss ver) :
  Mem (E.put r (E.blk r) (E.sl r)) (bH ρ r (.row e (.list t) xss (nx ver))) W w/\Ext E ρ w (E.put r (E.blk r) (E.sl r)) (bH ρ r (.row e (.list t) xss (nx ver))) w:=by
 have hgo:jI E w w (fun q=>q=r):=⟨rfl,rfl,rfl,ay _,fun _ _ _=>rfl,fun _ _ _ h=>h⟩
 have h1:=hM.res r
 rw[hr] at h1
 obtain⟨k1,k2,⟨cs,k3,k4,k5⟩,k6,k7,k8⟩:=h1
 have hF:=zG (ρ:=ρ) (w':=w) (E:=E) (r:=r) (s:=E.sl r) (b:=E.blk r) (ay _) (.inr (.inl rfl))
 have hfz:∀ j g,E.has r (j+1) g->fz w (E.put r (E.blk r) (E.sl r)) g:=fun j g hh=>by
  refine qW (hM.lt hh) (hM.base _ (hM.mine r (j+1) g hh)) (fun r' j' e'=>?_)
  unfold Env.put at e'
  rw[mD] at e'
  split at e'
  ·rename_i hrr
   subst hrr
   cases j' with
   | zero=>have:=(hM.inj r' 0 r' (j+1) g e' hh).2;omega
   | succ i=>cases e'
  ·rename_i hne
   exact hne (hM.inj _ _ _ _ _ e' hh).1
 have hlen:(bJ (α:=List t.den) none xss).length=List.length (α:=(Ty.list t).den) xss:=by simp only[bJ,bf];rfl
 rw[hlen] at k3
 have hrow:∀ i xs,xss[i]?=some xs->rep (fz w (E.put r (E.blk r) (E.sl r))) w (.list t) [E.inn r i] xs:=fun i xs hi=>by
  obtain⟨ds,q1,q2,q3⟩:=k8 i xs hi
  obtain⟨cs9,e9,r9⟩:=jX (E:=E) (F:=fz w (E.put r (E.blk r) (E.sl r))) q1 (aW (fun c y=>bW hF (iP.refl _ _) t c y) _ _ q2) (fun g hg=>hfz i g hg)
  have r8:=r9
  obtain⟨p9,c9,e8,_⟩:=r9
  have e7:cs9=[E.inn r i]:=by
   have:E.inn r i=cs9.headD undef:=e9
   rw[this,e8];rfl
  rw[<-e7];exact r8
 have hch:chunks (rep (fz w (E.put r (E.blk r) (E.sl r))) w (.list t)) cs xss:=by
  rw[k4]
  show chunks _ ((List.range xss.length).map (E.inn r)) xss
  exact uU _ _ hrow
 have hsl:(E.put r (E.blk r) (E.sl r)).sl r=E.sl r:=aG _ _ _
 have hbl:(E.put r (E.blk r) (E.sl r)).blk r=E.blk r:=aG _ _ _
 exact hM.turn (w':=w) r hgo (E.blk r) (E.sl r) (.row e (.list t) xss (nx ver)) ⟨by rw[hsl,hbl];exact k1,rfl,cs,by rw[hsl];exact k3,hch,by rw[hsl];exact⟨k5,a5P _ _⟩⟩ (.inr (.inl rfl)) rfl (fun k e=>by cases e) (fun h=>by rw[hr] at h;exact h.elim) (fun h=>by rw[hr] at h;exact h.elim)
  (fun v h=>by rw[hr] at h;exact iq h (a2q _))
  (fun v h h'=>by
   rw[hr] at h
   have h:v<=ver:=h
   have h':gv (nx ver)=gv v:=h'
   have h2:=XK ver
   have h3:=IC h
   omega) (fun v h=>h.elim)
theorem a7d {k:Operand->K} {ev:Operand->Value} {o:Oper} {vc:List Cd} {kk:K} {l:List (Nat × Res)} (h:vM P ρ k o.op=some (vc,kk,l)) (hv:dJ vc) (hM:Mem E ρ W w) (hw:∀ x,(k x).wf ρ) (hk:∀ x,(k x).holds E ρ w (ev x)):dV P E ρ W w o ev kk l:=by
 cases ho:o.op<;>rw[ho] at h<;>try (simp[vM] at h;done)
 rename_i c
 obtain⟨cl,xs,ts⟩:=c
 cases cl<;>try (simp[vM] at h;done)
 rename_i bi
 cases bi<;>try (simp[vM] at h;done)
 case append =>
  simp only[vM] at h
  split at h<;>try(cases h;done)
  rename_i x y t t' hxs hts
  split at h<;>try(cases h;done)
  rename_i r v ty' ys hkx hky
  have exs:xs=#[x,y]:=by rw[<-Array.toArray_toList (xs:=xs),hxs]
  have ets:ts=#[t,t']:=by rw[<-Array.toArray_toList (xs:=ts),hts]
  have h1:=hk x
  have h2:=hk y
  rw[hkx] at h1
  rw[hky] at h2
  split at h<;>try(cases h;done)
  ·rename_i e e2 ty xss v' hr
   split at h<;>try(cases h;done)
   rename_i zs hc
   split at h<;>try(cases h;done)
   rename_i hb
   simp only[au,jf,aj] at hb
   obtain⟨⟨⟨⟨rfl,hv0⟩,hsb⟩,hfew⟩,hzb⟩:=hb
   simp only[ak,dh] at h
   obtain⟨rfl,rfl,rfl⟩:=h
   obtain⟨e9,hc⟩:=dL hc
   simp only[Ty.list.injEq] at e9
   subst e9
   have hc:ys=zs:=hc
   subst hc exs ets
   have hin:ev x=E.sl r:=h1 (by rw[hr];exact hv0.symm)
   obtain⟨m1,m2⟩:=b2J hM hr
   have hr1:bH ρ r (.row e (.list ty) xss (nx v')) r=.row e (.list ty) xss (nx v'):=aG _ _ _
   have hres:=m1.res r
   rw[hr1] at hres
   obtain⟨k1,k2,cs,k3,k4,k5⟩:=hres
   have hsl:(E.put r (E.blk r) (E.sl r)).sl r=E.sl r:=aG _ _ _
   have hy:seen (fz w (E.put r (E.blk r) (E.sl r))) w (.list ty) (ev y) ys:=sJ (m2.holds (.val (.list (.list ty)) ys) _ trivial h2)
   obtain⟨s',w',E',g1,g2,g3,g4⟩:=OM (P:=P) (t:=t) (s:=(E.put r (E.blk r) (E.sl r)).sl r) (x:=ev y) (v0:=nx (nx v')) m1 hsb hfew hzb k2 (k1.trans (lJ _)) k3 k4 k5.1 (a5P _ _) hy hv.1 (.inr ⟨e,.list ty,xss,nx v',hr1,a2q _,XK _⟩) o.type
   refine dV.of (jR ho) ⟨s',w',E',?_,g2,m2.trans g3,?_,?_⟩
   ·rw[hin,<-hsl];exact g1
   ·show Res.dW _ (bH _ r _ r);rw[aG];exact ay _
   ·intro _;exact g4
  ·rename_i e ty xs0 v' hr
   split at h<;>try(cases h;done)
   rename_i hb
   simp only[au,jf,aj] at hb
   obtain⟨⟨⟨⟨⟨⟨rfl,hv0⟩,hsb0⟩,hsb⟩,hfew⟩,hzb⟩,hst⟩:=hb
   simp only[ak,dh] at h
   obtain⟨rfl,rfl,rfl⟩:=h
   subst exs ets
   obtain⟨hx0,hlen,_⟩:=hv
   have hin:ev x=E.sl r:=h1 (by rw[hr];exact hv0.symm)
   have hres:=hM.res r
   rw[hr] at hres
   obtain⟨k1,k2,cs,k3,k4,k5⟩:=hres
   have hn:ty.n=ty'.n:=by
    obtain⟨_,_,_,_,i1,z1,q1,_,q2⟩:=iW hsb0
    obtain⟨_,_,_,_,i2,z2,q3,_,q4⟩:=iW hsb
    rw[q1] at q3;cases q3;omega
   have hcs:cs=[]:=by
    have:=k3.1
    rw[hx0,Nat.zero_mul] at this
    exact qp this
   subst hcs
   have k3':w.ownsRow 0 e ty'.n (E.sl r) (List.length (α:=ty'.den) []) []:=by
    rw[hx0,hn] at k3;exact k3
   have hy:seen (fz w E) w ty' (ev y) ys:=sJ h2
   obtain⟨s',w',E',g1,g2,g3,g4⟩:=OM (P:=P) (t:=t) (s:=E.sl r) (x:=ev y) (xs:=[]) (v0:=nxf v') hM hsb hfew hzb hst (k1.trans (lJ _)) k3' rfl k5.1 (b1h k5.2) hy (by rw[List.length_nil,tu];exact hlen) (.inr ⟨e,ty,xs0,v',hr,b0N _,a9W _⟩) o.type
   refine dV.of (jR ho) ⟨s',w',E',?_,g2,g3,?_,?_⟩
   ·rw[hin];exact g1
   ·show Res.dW _ (bH _ r _ r);rw[aG];exact ay _
   ·intro _;exact g4
 simp only[vM] at h
 split at h<;>try(cases h;done)
 rename_i x y t t' hxs hts
 split at h<;>try(cases h;done)
 rename_i r v id ty' ys hkx hky
 split at h<;>try(cases h;done)
 rename_i e e2 ty ids xss v' hr
 split at h<;>try(cases h;done)
 rename_i zs hc
 split at h<;>try(cases h;done)
 rename_i hb
 simp only[au,jf] at hb
 obtain⟨rfl,hel⟩:=hb
 simp only[ak,dh] at h
 obtain⟨rfl,rfl,rfl⟩:=h
 obtain⟨e9,hc⟩:=dL hc
 simp only[Ty.list.injEq] at e9
 subst e9
 have hc:ys=zs:=hc
 subst hc
 obtain⟨hlen,hpos,_⟩:=hv
 have exs:xs=#[x,y]:=by rw[<-Array.toArray_toList (xs:=xs),hxs]
 have ets:ts=#[t,t']:=by rw[<-Array.toArray_toList (xs:=ts),hts]
 subst exs ets
 have h1:=hk x
 have h2:=hk y
 have hwx:=hw x
 rw[hkx] at h1 hwx
 rw[hky] at h2
 have hin:ev x=E.inn r id:=h1 (by rw[hr];rfl)
 have hid:=hwx.2 (by rw[hr];rfl)
 rw[hr] at hid
 have hid:id<xss.length:=hid
 obtain⟨p,c,hyv,_,_,h3⟩:=wP (ρ:=ρ) h2
 rcases h3 with h3|⟨b,oo,ds,rfl,_,k3,k4⟩
 ·rw[h3] at hpos;simp at hpos
 obtain⟨cs,q1,q2,q3⟩:=mG hM hr hid
 obtain⟨g,hg⟩:∃ g,bI (E.inn r id)=some g:=by
  rcases q1.2 with⟨_,hn⟩|⟨g,cap,cur,e1,_⟩
  ·rw[hlen] at hn;rw[hn] at hpos;simp at hpos
  ·exact⟨g,by rw[e1];rfl⟩
 obtain⟨cap,rest,e1,_⟩:=owns_block q1 hg
 obtain⟨E',m1,m2,m3,m4⟩:=a9I (zs:=ys) hM hr hid hg hlen.symm k4
 obtain⟨el,hu,hfit⟩:=nH hel
 obtain⟨⟨i2,hi,hsz⟩,_⟩:=fF hfit
 have hdl:ds.length=List.length (α:=ty'.den) ys*ty'.n:=mX (fun c y=>dI ty' c y) _ _ k4
 have hone:∀ v ∈ ds,v.oneCell'=true:=fun v hv=>by
  have:=a0b m4 k4 v hv
  simp only[cO,au] at this
  exact this.1
 refine dV.of (s:=Builtin.copy_ #[t,t'] o.type #[ev x,ev y]) (by simp[execOp,ho,resolve,invoke,builtin]) ⟨goInt (List.length (α:=ty'.den) ys),_,E',?_,m1,m2,trivial,kG _ _⟩
 rw[hin,e1,hyv,hlen]
 exact run_copy_row hu hi hsz hdl k3 m3 hone
end
end
end Go.Proofs.YtbkocjmmbkifjaaGreat
