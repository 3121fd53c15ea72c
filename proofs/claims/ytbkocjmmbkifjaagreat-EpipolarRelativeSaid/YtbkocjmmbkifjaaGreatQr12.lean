/-
  Lemmas for the theorem vrelative28_holds, part 12 of 35.
-/
import Derived.Laws.IdiomCopy
import Derived.Test.YtbkocjmmbkifjaaGreatQr11
namespace Go.Proofs.YtbkocjmmbkifjaaGreat
open Go Go.RowKit
section
set_option linter.unusedSimpArgs false
set_option linter.unusedVariables false
def wU (P:Program) (ρ:Nat->Res) (k:Operand->K):Op->MK
 | .call { callee:=.builtin .copy,args:=xs,argTypes:=ts }=>match xs.toList,ts.toList with
  | [x,y],[t,_]=>match k x,k y with
   | .mrow r v id,.val (.list ty') ys=>match ρ r with
    | .mat e e2 ty ids xss v'=>match gK (.list ty') (.list ty) ys with
     | some zs=>if v==v'&&nP P t none ty then some ([List.length (α:=ty.den) (rowAt (α:=ty.den) xss id)=List.length (α:=ty.den) zs,0<List.length (α:=ty.den) zs],.val (.int .i64) ((List.length (α:=ty.den) zs:Nat):Int),[(r,.mat e e2 ty ids (List.set (α:=List ty.den) xss id zs) v')]) else none
     | none=>none
    | _=>none
   | _,_=>none
  | _,_=>none
 | .call { callee:=.builtin .append,args:=xs,argTypes:=ts }=>match xs.toList,ts.toList with
  | [x,y],[t,t']=>match k x,k y with
   | .own r v,.val (.list ty') ys=>match ρ r with
    | .mat e e2 ty none xss v'=>match gK (.list ty') (.list (.list ty)) ys with
     | some zs=>if decide (t=t')&&gv v==gv v'&&(sliceB P t (.list ty) 0==some e)&&FN P e&&XD P e 1 then
       some ([List.length (α:=List ty.den) xss+List.length (α:=List ty.den) zs<=1000000000],.own r (nx (nx v')),[(r,.row e (.list ty) xss (nx v')),(r,.row e (.list ty) (xR (.list ty) xss zs) (nx (nx v')))])
       else none
     | none=>none
    | .row e ty xs v'=>if decide (t=t')&&gv v==gv v'&&(sliceB P t ty 0==some e)&&(sliceB P t ty' 0==some e)&&FN P e&&XD P e ty'.n&&ty'.still then
      some ([List.length (α:=ty.den) xs=0,List.length (α:=ty'.den) ys<=1000000000],.own r (nxf v'),[(r,.row e ty' ys (nxf v'))]) else none
    | _=>none
   | _,_=>none
  | _,_=>none
 | _=>none
section
variable {P:Program} {E:Env} {ρ:Nat->Res} {W w:World}
theorem a8X {e:TypeId} {n m g:Nat} {v:Value} {cs ds:List Value} (h:w.ownsRow 0 e n v m cs) (hg:bK v=some g) (hl:ds.length=m*n):(w.setCells g 0 ds).ownsRow 0 e n v m ds:=by
 obtain⟨cap,rest,rfl,h1,h2,h3,h4⟩:=owns_block h hg;have hlen:=h.1;have hh:=jW g ds 0 w (cs++rest) e h3 (by rw[dh];omega);have e1:(cs++rest).take 0++ds++(cs++rest).drop (0+ds.length)=ds++rest:=by rw[qg,List.drop_append_of_le_length (by omega),List.drop_of_length_le (by omega)];simp
 rw[e1] at hh;refine⟨hl,.inr ⟨g,cap,_,rfl,ru _,hh,h1,h2,?_,?_⟩⟩
 ·rw[Dk,dh,hl,<-h4,dh];omega
 ·show List.take (m*n) _=_;rw[<-hl];exact Di
theorem b1c {r v id g:Nat} {e e2:TypeId} {ty:Ty} {ids:Option (List Nat)} {xss:List (List ty.den)} {zs:List ty.den} {ds:List Value} (hM:Mem E ρ W w) (hr:ρ r=.mat e e2 ty ids xss v) (hid:id<xss.length) (hg:bK (E.inn r id)=some g) (hz:zs.length=(rowAt xss id).length) (hd:chunks (rep (fz w E) w ty) ds zs) :
  ∃ E',Mem E' (bJ ρ r (.mat e e2 ty ids (xss.set id zs) v)) W (w.setCells g 0 ds)/\Ext E ρ w E' (bJ ρ r (.mat e e2 ty ids (xss.set id zs) v)) (w.setCells g 0 ds)/\w.there g 0 ds.length/\ty.still=true:=by
 have h1:=hM.res r;rw[hr] at h1;obtain⟨k1,k2,⟨cs0,k3,k4,k5⟩,k6,k7,k8⟩:=h1;obtain⟨cs,q1,q2,q3⟩:=nU hM hr hid;have hl:ds.length=(rowAt xss id).length*ty.n:=by rw[<-hz];exact oL (fun c y=>dL ty c y) _ _ hd
 obtain⟨cap,rest,e1,e2',e3,e4,e5⟩:=owns_block q1 hg;have hhas:E.has r (id+1) g:=hg;have hgo:=xP (S:=fun q=>q=r) (vs:=ds) (o:=0) rfl hhas e4 (vM q3 hg e4);have hF:∀ q,fz w E q->fz (w.setCells g 0 ds) (E.sN r (E.blk r) (E.sl r) (E.inn r)) q:=vG (S:=fun q=>q=r) hgo.size rfl (fun q hq=>⟨aS _ _ hq,aS _ _ hq⟩) (fun r' j q e hh=>by
  subst e;rw[nS,dn rfl] at hh;cases j with
  | zero=>exact .inl ⟨r',0,hh⟩
  | succ j=>exact .inl ⟨r',j+1,hh⟩)
 have hcl:=q1.1;have a0Y:0+ds.length<=(cs++rest).length:=by rw[dh];omega
 have hne:∀ j q,E.has r j q->j≠id+1->(w.setCells g 0 ds).heap[q]?=w.heap[q]?:=fun j q hh hj=>(nX g ds _ w).2.2.2.2 q (fun e=>hj ((hM.inj _ _ _ _ _ hh (by subst e;exact hhas)).2));have hlen:(bW ids (xss.set id zs))=bW ids xss:=by
  cases ids with
  | none=>simp[bW]
  | some l=>rfl
 have AY:(E.sN r (E.blk r) (E.sl r) (E.inn r)).inn r=E.inn r:=aF _ _ _;have hsl:(E.sN r (E.blk r) (E.sl r) (E.inn r)).sl r=E.sl r:=aF _ _ _;have hx:nD (E.sN r (E.blk r) (E.sl r) (E.inn r)) (w.setCells g 0 ds) r (.mat e e2 ty ids (xss.set id zs) v):=by
  have hb0:∀ b,bK (E.sl r)=some b->(w.setCells g 0 ds).heap[b]?=w.heap[b]?:=fun b hb=>hne 0 b (k1.trans hb) (by simp);refine⟨by rw[hsl];show bJ E.blk r _ r=_;rw[aF];exact k1,k2,⟨cs0,?_,by rw[AY,hlen];exact k4,by rw[hsl];exact jM k5 hb0⟩,by rw[hlen,qp];exact k6,by rw[AY,qp];exact k7,fun j ys hj=>?_⟩
  ·rw[hsl,hlen];exact dU k3 hb0
  ·rw[AY];rw[List.getElem?_set] at hj;split at hj
   ·rename_i ej;subst ej;simp only[hid,Du,ah] at hj;subst hj;exact⟨_,by rw[hz];exact a8X q1 hg hl,aZ (fun c y=>bY hF hgo.stay ty c y) _ _ hd,SK q3 hg e4 a0Y (a0H k2 hd)⟩
   ·rename_i ej;obtain⟨cs9,r1,r2,r3⟩:=k8 j ys hj;have hb1:∀ b,bK (E.inn r j)=some b->(w.setCells g 0 ds).heap[b]?=w.heap[b]?:=fun b hb=>hne (j+1) b hb (by omega);exact⟨cs9,dU r1 hb1,aZ (fun c y=>bY hF hgo.stay ty c y) _ _ r2,jM r3 hb1⟩
 obtain⟨m1,m2⟩:=hM.GK (w':=w.setCells g 0 ds) r hgo (E.blk r) (E.sl r) (E.inn r) _ hx (fun q hq=>.inl (by
   rcases hq with hq|⟨j,hq⟩
   ·exact⟨0,hq⟩
   ·exact⟨j+1,hq⟩)) (fun q j h1 h2=>by have:=(hM.inj r 0 r (j+1) q h1 h2).2;omega) (fun j j' q h1 h2=>by have:=(hM.inj r (j+1) r (j'+1) q h1 h2).2;omega) (fun j hj=>hM.inner r j (by rw[hr];simpa [Res.cnt] using hj))
  (fun h=>by rw[hr] at h;exact h.elim) (fun h=>by rw[hr] at h;exact h.elim) (fun v' h=>by rw[hr] at h;exact h) (fun v' h h'=>⟨by rw[hr];exact h',rfl,by rw[hr];rfl⟩) (fun v' h h'=>⟨by rw[hr];exact h',by rw[hr];rfl,by rw[hr];simp[Res.cnt],fun _ _=>rfl⟩) (fun _ k e=>by cases e)
 refine⟨_,m1,m2,fun j hj=>?_,k2⟩;have hj2:j<(cs++rest).length:=by rw[dh];omega
 rw[qg];refine⟨?_,?_⟩
 ·rw[yg w g j _ _ _ e4];simp[dw hj2]
 ·simp[World.frozen?,e4]
theorem run_copy_row {dT sT T elem:TypeId} {i:TypeInfo} {n m g c o b c':Nat} {cs:List Value} (hu:P.underlying dT=some (.slice elem)) (hi:P.info? elem=some i) (hn:i.size=n) (hl:cs.length=m*n)
  (hsrc:w.rangeAt b o cs) (ht:w.there g 0 cs.length) (h1:∀ v ∈ cs,v.oneCell'=true) :
  (Builtin.copy_ #[dT,sT] T #[.slice (some ⟨g,0,none⟩) m c,.slice (some ⟨b,o,none⟩) m c']).run P w=.ok (goInt m) (w.setCells g 0 cs):=by
 have h2:=run_firstCells_some (P:=P) (w:=w) n m ⟨b,o,none⟩ m c' cs hl (fun j v hv=>by rw[Ba];exact hsrc j v hv);have hst:=run_storeCells_cells (P:=P) g 0 cs 0 w (fun j hj=>by have:=(ht j hj).1;simpa using this) (fun j hj=>by have:=(ht j hj).2;simpa using this) h1;have h4:Nat.min m m=m:=Nat.min_self m;simp[Builtin.copy_,ku hu,Builtin.lenOf,sizeOf,typeInfo,hi,hn,h2,hst,eu,h4]
theorem b4h {r ver:Nat} {e e2:TypeId} {t:Ty} {xss:List (List t.den)} (hM:Mem E ρ W w) (hr:ρ r=.mat e e2 t none xss ver) :
  Mem (E.put r (E.blk r) (E.sl r)) (bJ ρ r (.row e (.list t) xss (nx ver))) W w/\Ext E ρ w (E.put r (E.blk r) (E.sl r)) (bJ ρ r (.row e (.list t) xss (nx ver))) w:=by
 have hgo:lH E w w (fun q=>q=r):=⟨rfl,rfl,rfl,aj _,fun _ _ _=>rfl,fun _ _ _ h=>h⟩;have h1:=hM.res r;rw[hr] at h1;obtain⟨k1,k2,⟨cs,k3,k4,k5⟩,k6,k7,k8⟩:=h1;have hF:=AU (ρ:=ρ) (w':=w) (E:=E) (r:=r) (s:=E.sl r) (b:=E.blk r) (aj _) (.inr (.inl rfl));have hfz:∀ j g,E.has r (j+1) g->fz w (E.put r (E.blk r) (E.sl r)) g:=fun j g hh=>by
  refine sH (hM.lt hh) (hM.base _ (hM.mine r (j+1) g hh)) (fun r' j' e'=>?_);unfold Env.put at e';rw[nS] at e';split at e'
  ·rename_i hrr;subst hrr;cases j' with
   | zero=>have:=(hM.inj r' 0 r' (j+1) g e' hh).2;omega
   | succ i=>cases e'
  ·rename_i hne;exact hne (hM.inj _ _ _ _ _ e' hh).1
 have hlen:(bW (α:=List t.den) none xss).length=List.length (α:=(Ty.list t).den) xss:=by simp only[bW,jr];rfl
 rw[hlen] at k3;have hrow:∀ i xs,xss[i]?=some xs->rep (fz w (E.put r (E.blk r) (E.sl r))) w (.list t) [E.inn r i] xs:=fun i xs hi=>by
  obtain⟨ds,q1,q2,q3⟩:=k8 i xs hi;obtain⟨cs9,e9,r9⟩:=lD (E:=E) (F:=fz w (E.put r (E.blk r) (E.sl r))) q1 (aZ (fun c y=>bY hF (jK.refl _ _) t c y) _ _ q2) (fun g hg=>hfz i g hg);have r8:=r9;obtain⟨p9,c9,e8,_⟩:=r9;have e7:cs9=[E.inn r i]:=by have:E.inn r i=cs9.headD undef:=e9;rw[this,e8];rfl
  rw[<-e7];exact r8
 have hch:chunks (rep (fz w (E.put r (E.blk r) (E.sl r))) w (.list t)) cs xss:=by rw[k4];show chunks _ ((List.range xss.length).map (E.inn r)) xss;exact vZ _ _ hrow
 have hsl:(E.put r (E.blk r) (E.sl r)).sl r=E.sl r:=aF _ _ _;have hbl:(E.put r (E.blk r) (E.sl r)).blk r=E.blk r:=aF _ _ _;exact hM.turn (w':=w) r hgo (E.blk r) (E.sl r) (.row e (.list t) xss (nx ver)) ⟨by rw[hsl,hbl];exact k1,rfl,cs,by rw[hsl];exact k3,hch,by rw[hsl];exact⟨k5,a6Q _ _⟩⟩ (.inr (.inl rfl)) rfl (fun k e=>by cases e) (fun h=>by rw[hr] at h;exact h.elim) (fun h=>by rw[hr] at h;exact h.elim)
  (fun v h=>by rw[hr] at h;exact au h (a2Y _))
  (fun v h h'=>by
   rw[hr] at h;have h:v<=ver:=h;have h':gv (nx ver)=gv v:=h';have h2:=YP ver;have h3:=JW h;omega) (fun v h=>h.elim)
theorem a8o {k:Operand->K} {ev:Operand->Value} {o:Oper} {vc:List Cd} {kk:K} {l:List (Nat × Res)} (h:wU P ρ k o.op=some (vc,kk,l)) (hv:dH vc) (hM:Mem E ρ W w) (hw:∀ x,(k x).wf ρ) (hk:∀ x,(k x).holds E ρ w (ev x)):dV P E ρ W w o ev kk l:=by
 cases ho:o.op<;>rw[ho] at h<;>try (simp[wU] at h;done)
 rename_i c;obtain⟨cl,xs,ts⟩:=c;cases cl<;>try (simp[wU] at h;done)
 rename_i bi;cases bi<;>try (simp[wU] at h;done)
 case append =>
  simp only[wU] at h;split at h<;>try(cases h;done)
  rename_i x y t t' hxs hts;split at h<;>try(cases h;done)
  rename_i r v ty' ys hkx hky;have exs:xs=#[x,y]:=by rw[<-Array.toArray_toList (xs:=xs),hxs]
  have ets:ts=#[t,t']:=by rw[<-Array.toArray_toList (xs:=ts),hts]
  have h1:=hk x;have h2:=hk y;rw[hkx] at h1;rw[hky] at h2;split at h<;>try(cases h;done)
  ·rename_i e e2 ty xss v' hr;split at h<;>try(cases h;done)
   rename_i zs hc;split at h<;>try(cases h;done)
   rename_i hb;simp only[ay,jo,jc] at hb;obtain⟨⟨⟨⟨rfl,hv0⟩,hsb⟩,hfew⟩,hzb⟩:=hb;simp only[ah,ak] at h;obtain⟨rfl,rfl,rfl⟩:=h;obtain⟨e9,hc⟩:=dO hc;simp only[Ty.list.injEq] at e9;subst e9;have hc:ys=zs:=hc;subst hc exs ets;have hin:ev x=E.sl r:=h1 (by rw[hr];exact hv0.symm);obtain⟨m1,m2⟩:=b4h hM hr;have hr1:bJ ρ r (.row e (.list ty) xss (nx v')) r=.row e (.list ty) xss (nx v'):=aF _ _ _;have hres:=m1.res r;rw[hr1] at hres;obtain⟨k1,k2,cs,k3,k4,k5⟩:=hres;have hsl:(E.put r (E.blk r) (E.sl r)).sl r=E.sl r:=aF _ _ _;have hy:seen (fz w (E.put r (E.blk r) (E.sl r))) w (.list ty) (ev y) ys:=uT (m2.holds (.val (.list (.list ty)) ys) _ trivial h2);obtain⟨s',w',E',g1,g2,g3,g4⟩:=QM (P:=P) (t:=t) (s:=(E.put r (E.blk r) (E.sl r)).sl r) (x:=ev y) (v0:=nx (nx v')) m1 hsb hfew hzb k2 (k1.trans (mM _)) k3 k4 k5.1 (a6Q _ _) hy hv.1 (.inr ⟨e,.list ty,xss,nx v',hr1,a2Y _,YP _⟩) o.type;refine dV.of (kS ho) ⟨s',w',E',?_,g2,m2.trans g3,?_,?_⟩
   ·rw[hin,<-hsl];exact g1
   ·show Res.dW _ (bJ _ r _ r);rw[aF];exact aj _
   ·intro _;exact g4
  ·rename_i e ty xs0 v' hr;split at h<;>try(cases h;done)
   rename_i hb;simp only[ay,jo,jc] at hb;obtain⟨⟨⟨⟨⟨⟨rfl,hv0⟩,hsb0⟩,hsb⟩,hfew⟩,hzb⟩,hst⟩:=hb;simp only[ah,ak] at h;obtain⟨rfl,rfl,rfl⟩:=h;subst exs ets;obtain⟨hx0,hlen,_⟩:=hv;have hin:ev x=E.sl r:=h1 (by rw[hr];exact hv0.symm);have hres:=hM.res r;rw[hr] at hres;obtain⟨k1,k2,cs,k3,k4,k5⟩:=hres;have hn:ty.n=ty'.n:=by obtain⟨_,_,_,_,i1,z1,q1,_,q2⟩:=jS hsb0;obtain⟨_,_,_,_,i2,z2,q3,_,q4⟩:=jS hsb;rw[q1] at q3;cases q3;omega
   have hcs:cs=[]:=by have:=k3.1;rw[hx0,Nat.zero_mul] at this;exact ng this
   subst hcs;have k3':w.ownsRow 0 e ty'.n (E.sl r) (List.length (α:=ty'.den) []) []:=by rw[hx0,hn] at k3;exact k3
   have hy:seen (fz w E) w ty' (ev y) ys:=uT h2;obtain⟨s',w',E',g1,g2,g3,g4⟩:=QM (P:=P) (t:=t) (s:=E.sl r) (x:=ev y) (xs:=[]) (v0:=nxf v') hM hsb hfew hzb hst (k1.trans (mM _)) k3' rfl k5.1 (b2D k5.2) hy (by rw[List.length_nil,qg];exact hlen) (.inr ⟨e,ty,xs0,v',hr,b2h _,b1r _⟩) o.type;refine dV.of (kS ho) ⟨s',w',E',?_,g2,g3,?_,?_⟩
   ·rw[hin];exact g1
   ·show Res.dW _ (bJ _ r _ r);rw[aF];exact aj _
   ·intro _;exact g4
 simp only[wU] at h;split at h<;>try(cases h;done)
 rename_i x y t t' hxs hts;split at h<;>try(cases h;done)
 rename_i r v id ty' ys hkx hky;split at h<;>try(cases h;done)
 rename_i e e2 ty ids xss v' hr;split at h<;>try(cases h;done)
 rename_i zs hc;split at h<;>try(cases h;done)
 rename_i hb;simp only[ay,jo] at hb;obtain⟨rfl,hel⟩:=hb;simp only[ah,ak] at h;obtain⟨rfl,rfl,rfl⟩:=h;obtain⟨e9,hc⟩:=dO hc;simp only[Ty.list.injEq] at e9;subst e9;have hc:ys=zs:=hc;subst hc;obtain⟨hlen,hpos,_⟩:=hv;have exs:xs=#[x,y]:=by rw[<-Array.toArray_toList (xs:=xs),hxs]
 have ets:ts=#[t,t']:=by rw[<-Array.toArray_toList (xs:=ts),hts]
 subst exs ets;have h1:=hk x;have h2:=hk y;have hwx:=hw x;rw[hkx] at h1 hwx;rw[hky] at h2;have hin:ev x=E.inn r id:=h1 (by rw[hr];rfl);have hid:=hwx.2 (by rw[hr];rfl);rw[hr] at hid;have hid:id<xss.length:=hid;obtain⟨p,c,hyv,_,_,h3⟩:=yC (ρ:=ρ) h2;rcases h3 with h3|⟨b,oo,ds,rfl,_,k3,k4⟩
 ·rw[h3] at hpos;simp at hpos
 obtain⟨cs,q1,q2,q3⟩:=nU hM hr hid;obtain⟨g,hg⟩:∃ g,bK (E.inn r id)=some g:=by
  rcases q1.2 with⟨_,hn⟩|⟨g,cap,cur,e1,_⟩
  ·rw[hlen] at hn;rw[hn] at hpos;simp at hpos
  ·exact⟨g,by rw[e1];rfl⟩
 obtain⟨cap,rest,e1,_⟩:=owns_block q1 hg;obtain⟨E',m1,m2,m3,m4⟩:=b1c (zs:=ys) hM hr hid hg hlen.symm k4;obtain⟨el,hu,hfit⟩:=oQ hel;obtain⟨⟨i2,hi,hsz⟩,_⟩:=fM hfit;have hdl:ds.length=List.length (α:=ty'.den) ys*ty'.n:=oL (fun c y=>dL ty' c y) _ _ k4;have hone:∀ v ∈ ds,v.oneCell'=true:=fun v hv=>by have:=a0H m4 k4 v hv;simp only[dB,ay] at this;exact this.1
 refine dV.of (s:=Builtin.copy_ #[t,t'] o.type #[ev x,ev y]) (by simp[execOp,ho,resolve,invoke,builtin]) ⟨goInt (List.length (α:=ty'.den) ys),_,E',?_,m1,m2,trivial,lI _ _⟩;rw[hin,e1,hyv,hlen];exact run_copy_row hu hi hsz hdl k3 m3 hone
end
end
section
set_option linter.unusedSimpArgs false
set_option linter.unusedVariables false
def zW (ρ:Nat->Res):(ts:List Ty)->List K->Option (List Cd × (nest ts).den × List (Nat × Res))
 | [],[]=>some ([],(),[])
 | t::ts,k::ks=>match wR ρ (some t) k with
  | some (p,l)=>match kN p.t t,zW (after ρ l) ts ks with
   | some q,some (vc,x,l')=>some (q.c p.x++vc,(q.f p.x,x),l++l')
   | _,_=>none
  | none=>none
 | _,_=>none
def WL:(t:Ty)->t.den->List K
 | .pair a b,x=>.val a x.1::WL b x.2
 | _,_=>[]
def xG:Ty->Bool
 | .pair a b=>!a.agg&&xG b
 | .unit=>true
 | _=>false
def a8j:List K->Option Part
 | []=>some ⟨.unit,()⟩
 | .val t x::ks=>if t.agg then none else (a8j ks).map fun p=>⟨.pair t p.t,(x,p.x)⟩
 | _=>none
def MH (P:Program) (g:FuncId):Bool:=match P.funcs[g]? with
 | some fn=>!(fn.name == "runtime.NumGoroutine")&&!fn.body.isNone
 | none=>false
def FX:List K->Option (List K0)
 | []=>some []
 | .val t x::ks=>if t.agg then none else (FX ks).map fun l=>.val t x::l
 | .ptr r o::ks=>(FX ks).map fun l=>.ptr r o::l
 | .mW r::ks=>(FX ks).map fun l=>.mW r::l
 | _=>none
def Ty.free:Ty->Bool
 | .bool=>true
 | .int _=>true
 | .lf _=>true
 | .arr _ t=>t.free
 | .pair a b=>a.free&&b.free
 | .unit=>true
 | _=>false
def rowsOf {α:Type} (ids:Option (List Nat)) (xss:List (List α)):List (List α):=match ids with
 | none=>xss
 | some l=>l.map (rowAt xss)
def c6p:Option Ty->Bool
 | some (.nls _)=>true
 | _=>false
def vW (ρ:Nat->Res) (t:Option Ty):K->Option Part
 | .val t x=>some ⟨t,x⟩
 | .nil=>match t with
  | some (.list u)=>some ⟨.list u,[]⟩
  | some (.nls u)=>some ⟨.nls u,none⟩
  | _=>none
 | .own r v=>match ρ r with
  | .row _ u xs v'=>if gv v=gv v' then (if c6p t&&v'%2==1 then some ⟨.nls u,some xs⟩ else some ⟨.list u,xs⟩) else none
  | .fro t xs v'=>if gv v=gv v' then some ⟨.list t,xs⟩ else none
  | .mat _ _ t ids xss v'=>if gv v=gv v' then some ⟨.list (.list t),rowsOf ids xss⟩ else none
  | _=>none
 | .mrow r v i=>match ρ r with
  | .mat _ _ t _ xss v'=>if v=v' then some ⟨.list t,rowAt xss i⟩ else none
  | _=>none
 | _=>none
def c6E (p:Part):Part:=⟨.ref p.t,p.x⟩
def b8T (t:Option Ty) (ps:List Part) (o:Nat):Option Part:=match t,OQ ps o with
 | some (.ref u),some (_,qs)=>(pack u qs).map fun p=>c6E p.1
 | _,_=>none
def GL (ρ:Nat->Res) (t:Option Ty):K->Option Part
 | .ptr r o=>match ρ r with
  | .box ps=>b8T t ps o
  | _=>none
 | .mW r=>match ρ r with
  | .lG k=>match t with
   | some (.ref u)=>(vW ρ (some u) k).map c6E
   | _=>none
  | _=>none
 | k=>vW ρ t k
def gY (ρ:Nat->Res):Ty->List K0->Option Part
 | .unit,[]=>some ⟨.unit,()⟩
 | .pair a b,k::ks=>match GL ρ (some a) (k0K k),gY ρ b ks with
  | some p,some q=>if p.t.agg then none else some ⟨.pair p.t q.t,(p.x,q.x)⟩
  | _,_=>none
 | _,_=>none
def c8x (g:Nat) (p:Part):Part:=⟨.clo g p.t,p.x⟩
def WI (ρ:Nat->Res) (t:Ty):K->Option Part
 | .fn g ks=>match t with
  | .clo _ u=>(gY ρ u ks).map (c8x g)
  | _=>none
 | k=>GL ρ (some t) k
def nY (ρ:Nat->Res):(ts:List Ty)->List K->Option (List Cd × (nest ts).den)
 | [],[]=>some ([],())
 | t::ts,k::ks=>match WI ρ t k with
  | some p=>match kN p.t t,nY ρ ts ks with
   | some q,some (vc,x)=>some (q.c p.x++vc,(q.f p.x,x))
   | _,_=>none
  | none=>none
 | _,_=>none
def c5M (c:Ctr):Bool:=c.res.all Ty.free
def a7T {α:Type} (a:List Cd × α):List Cd × α × List (Nat × Res):=(a.1,a.2,[])
def a1Y (ρ:Nat->Res) (c:Ctr) (ks:List K):Option (List Cd × (nest c.args).den × List (Nat × Res)) :=
 orC (if c5M c then (nY ρ c.args ks).map a7T else none) (zW ρ c.args ks)
def b7S (c:Ctr) (a:List Cd × (nest c.args).den × List (Nat × Res)):List Cd × K × List (Nat × Res):=(a.1++([⟨c.pre a.2.1,(c.dec a.2.1).d⟩]:List Cd),b3o c.res (c.fn a.2.1),a.2.2)
def FW (ρ:Nat->Res) (ks:List K):List Ctr->MK
 | []=>none
 | c::cs=>match a1Y ρ c ks with
  | some a=>some (b7S c a)
  | none=>FW ρ ks cs
def b6d:K->At
 | .val t _=>.ty t
 | .fn g _=>.fn g
 | _=>.no
def wS (P:Program) (C:FuncId->List At->List Ctr) (ρ:Nat->Res) (k:Operand->K):Op->MK
 | .makeFunc (.func g) first caps=>if first.isEmpty then (match a8j (caps.toList.map k) with
  | some p=>some ([],.val (.clo g p.t) p.x,[])
  | none=>(FX (caps.toList.map k)).map fun l=>([],.fn g l,[])) else none
 | .call { callee:=.value f,args:=xs,argTypes:=_ }=>match k f with
  | .val (.clo g t) cx=>if MH P g&&xG t then FW ρ (xs.toList.map k++WL t cx) (C g ((xs.toList.map k++WL t cx).map b6d)) else none
  | .fn g l=>if MH P g then FW ρ (xs.toList.map k++l.map k0K) (C g ((xs.toList.map k++l.map k0K).map b6d)) else none
  | _=>none
 | _=>none
section
variable {P:Program} {E:Env} {ρ:Nat->Res} {W w:World}
theorem SC:∀ {ts:List Ty} {ks:List K} {ρ:Nat->Res} {E:Env} {vc:List Cd} {x:(nest ts).den} {l:List (Nat × Res)} {vs:List Value},zW ρ ts ks=some (vc,x,l)->dH vc->Mem E ρ W w->(∀ k ∈ ks,k.wf ρ)->lJ (fun k v=>K.holds E ρ w k v) ks vs ->
  ∃ E',Mem E' (after ρ l) W w/\Ext E ρ w E' (after ρ l) w/\jE (fz w E') w ts vs x
 | [],[],ρ,E,vc,x,l,vs,h,hv,hM,hw,hk=>by simp only[zW,ah,ak] at h;obtain⟨_,_,rfl⟩:=h;cases hk;exact⟨E,hM,Ext.refl _ _ _,rfl⟩
 | [],_::_,ρ,E,vc,x,l,vs,h,hv,hM,hw,hk=>by simp[zW] at h
 | _::_,[],ρ,E,vc,x,l,vs,h,hv,hM,hw,hk=>by simp[zW] at h
 | t::ts,k::ks,ρ,E,vc,x,l,vs,h,hv,hM,hw,hk=>by
  simp only[zW] at h;split at h<;>try(cases h;done)
  rename_i p l1 h1;split at h<;>try(cases h;done)
  rename_i q vc2 x2 l2 hq h2;simp only[ah,ak] at h;obtain⟨rfl,rfl,rfl⟩:=h;cases hk;rename_i v vs hv1 hvs;obtain⟨E1,m1,m2,m3⟩:=oC h1 hM (hw k (je ..)) hv1;have b9X:lJ (fun k v=>K.holds E1 (after ρ l1) w k v) ks vs:=by
   have hw':∀ k ∈ ks,k.wf ρ:=fun k hk=>hw k (jd _ hk);clear h2 hw
   induction hvs with
   | nil=>exact .nil
   | cons a b ih=>exact .cons (m2.holds _ _ (hw' _ (je ..)) a) (ih (fun k hk=>hw' k (jd _ hk)))
  obtain⟨hva,hvb⟩:=dI.1 hv;obtain⟨E2,n1,n2,n3⟩:=SC h2 hvb m1 (fun k hk=>m2.wf k (hw k (jd _ hk))) b9X;refine⟨E2,by rw[gG];exact n1,by rw[gG];exact m2.trans n2,v,vs,rfl,?_,n3⟩;obtain⟨cs,rfl,hr⟩:=fU n2.fz n2.stay m3;exact⟨cs,by unfold Ty.toV;rw[xH _ _ _ hq],tX _ _ _ hq cs _ hr hva⟩
theorem a0K {F:Nat->Prop}:(t:Ty)->(x:t.den)->(ds:List Value)->xG t=true->rep F w t ds x->(∀ q,F q->fz w E q)->lJ (fun k v=>K.holds E ρ w k v) (WL t x) ds/\∀ k ∈ WL t x,k.wf ρ
 | .pair a b,x,ds,h,⟨c1,c2,h1,h2,h3⟩,hF=>by
  simp only[xG,ay,zq] at h;obtain⟨k1,k2⟩:=a0K b x.2 c2 h.2 h3 hF;have hl:=dL a _ _ h2;have hn:a.n=1:=by have:=h.1;cases a<;>simp_all [Ty.agg,Ty.n];rename_i l;cases l<;>simp_all [Lf.agg,Lf.n]
  rw[hn] at hl;obtain⟨v,rfl⟩:∃ v,c1=[v]:=by
   match c1,hl with
   | [v],_=>exact⟨v,rfl⟩
  refine⟨by rw[h1];exact .cons ⟨[v],by unfold Ty.toV;rw[h.1];rfl,bY hF (jK.refl _ _) a _ _ h2⟩ k1,fun k hk=>?_⟩;rcases jh.1 hk with rfl|hk
  ·trivial
  ·exact k2 k hk
 | .unit,x,ds,h,hr,hF=>⟨by rw[show ds=[] from hr];exact .nil,fun k hk=>by cases hk⟩
 | .bool,x,ds,h,hr,hF=>by simp[xG] at h
 | .int _,x,ds,h,hr,hF=>by simp[xG] at h
 | .lf _,x,ds,h,hr,hF=>by simp[xG] at h
 | .list _,x,ds,h,hr,hF=>by simp[xG] at h
 | .arr _ _,x,ds,h,hr,hF=>by simp[xG] at h
 | .ref _,x,ds,h,hr,hF=>by simp[xG] at h
 | .clo _ _,x,ds,h,hr,hF=>by simp[xG] at h
 | .nls _,x,ds,h,hr,hF=>by simp[xG] at h
theorem a5P:∀ {ks:List K} {p:Part} {vs:List Value},a8j ks=some p->lJ (fun k v=>K.holds E ρ w k v) ks vs->rep (fz w E) w p.t vs p.x
 | [],p,vs,h,hk=>by simp only[a8j,ah] at h;subst h;cases hk;rfl
 | k::ks,p,vs,h,hk=>by
  cases k<;>try (simp[a8j] at h;done)
  rename_i t x;simp only[a8j] at h;split at h<;>try(cases h;done)
  rename_i ha;simp only[ig] at h;obtain⟨p',h1,rfl⟩:=h;cases hk;rename_i v vs hv hvs;obtain⟨cs,rfl,hr⟩:=hv;have ha:t.agg=false:=by simpa using ha
  have hl:=dL t _ _ hr;have hn:t.n=1:=by cases t<;>simp_all [Ty.agg,Ty.n];rename_i l;cases l<;>simp_all [Lf.agg,Lf.n]
  rw[hn] at hl;obtain⟨v,rfl⟩:∃ v,cs=[v]:=by
   match cs,hl with
   | [v],_=>exact⟨v,rfl⟩
  exact⟨[v],vs,by unfold Ty.toV;rw[ha];rfl,hr,a5P h1 hvs⟩
theorem XZ {g:FuncId} {args:Array Value} (h:MH P g=true):(callFunc g args).run P w=.ok (.enter g args) w:=by
 unfold MH at h;split at h<;>try(cases h;done)
 rename_i fn hf;simp only[ay,zq] at h;unfold callFunc;rw[eu];show (Result.ok P w).andThen _=_;simp only[Result.andThen_ok,hf,h.1,h.2,xu,if_false];rfl
theorem RD {F:Nat->Prop} {ts:List Ty} {v:Value} {y:(nest ts).den} (hF:∀ q,F q->fz w E q) (h:rF F w ts v y):(b3o ts y).holds E ρ w v/\(b3o ts y).wf ρ:=by
 match ts,y,h with
 | [t],y,h=>exact⟨fU hF (jK.refl _ _) h,trivial⟩
 | [],y,⟨vs,h1,h2⟩=>exact⟨⟨vs,h1,kP hF (jK.refl _ _) [] vs y h2⟩,trivial⟩
 | t1::t2::ts,y,⟨vs,h1,h2⟩=>exact⟨⟨vs,h1,kP hF (jK.refl _ _) _ vs y h2⟩,trivial⟩
def DU (P:Program) (E:Env) (ρ:Nat->Res) (W w:World) (o:Oper) (a:Act) (k:K) (l:List (Nat × Res)):Prop :=
 ∀ (next:Act->World->Prop) (Q:Exit->Act->World->Prop),(∀ v w' E',Mem E' (after ρ l) W w'->Ext E ρ w E' (after ρ l) w'->k.wf (after ρ l)->k.holds E' (after ρ l) w' v->next (a.put o.dst v) w')->o.wp P a w next Q
theorem dV.steps {o:Oper} {a:Act} {k:K} {l:List (Nat × Res)} (h:dV P E ρ W w o a.eval k l):DU P E ρ W w o a k l:=by
 intro next Q hn
 obtain⟨nx,v,w',E',h1,h2,h3,h4,h5,h6⟩:=h;unfold Oper.wp;rw[h1];rcases h2 with rfl|⟨rfl,rfl⟩
 ·exact hn v w' E' h3 h4 h5 h6
 ·exact hn undef w' E' h3 h4 h5 h6
theorem qH {F F':Nat->Prop} {w:World}:(t:Ty)->t.free=true->(cs:List Value)->(x:t.den)->rep F w t cs x->rep F' w t cs x
 | .bool,_,_,_,h=>h
 | .int _,_,_,_,h=>h
 | .lf _,_,_,_,h=>h
 | .list _,hf,_,_,_=>by simp[Ty.free] at hf
 | .arr n t,hf,_,_,⟨h1,h2⟩=>⟨h1,aZ (fun c y=>qH t (by simpa [Ty.free] using hf) c y) _ _ h2⟩
 | .pair a b,hf,_,_,⟨c1,c2,h1,h2,h3⟩=>by simp only[Ty.free,ay] at hf;exact⟨c1,c2,h1,qH a hf.1 _ _ h2,qH b hf.2 _ _ h3⟩
 | .unit,_,_,_,h=>h
 | .ref _,hf,_,_,_=>by simp[Ty.free] at hf
 | .clo _ _,hf,_,_,_=>by simp[Ty.free] at hf
 | .nls _,hf,_,_,_=>by simp[Ty.free] at hf
theorem a3O {F F':Nat->Prop} {w:World}:(ts:List Ty)->ts.all Ty.free=true->(vs:List Value)->(x:(nest ts).den)->jE F w ts vs x->jE F' w ts vs x
 | [],_,_,_,h=>h
 | t::ts,hf,_,x,⟨v,vs',h1,⟨cs,h2,h3⟩,h4⟩=>by simp only[List.all_cons,ay] at hf;exact⟨v,vs',h1,⟨cs,h2,qH t hf.1 _ _ h3⟩,a3O ts hf.2 vs' x.2 h4⟩
theorem VI {F F':Nat->Prop} {w:World} {ts:List Ty} {v:Value} {y:(nest ts).den} (hf:ts.all Ty.free=true) (h:rF F w ts v y):rF F' w ts v y:=by
 match ts,y,h with
 | [t],y,h =>
  obtain⟨cs,h1,h2⟩:=h;exact⟨cs,h1,qH t (by simpa using hf) _ _ h2⟩
 | [],y,⟨vs,h1,h2⟩=>exact⟨vs,h1,h2⟩
 | t1::t2::ts,y,⟨vs,h1,h2⟩=>exact⟨vs,h1,a3O _ hf vs y h2⟩
def FZ (w:World) (q:Nat):Prop:=q<w.heap.size
theorem b1j {q:Nat} (h:fz w E q):FZ w q:=h.1.1
theorem c0q {F:Nat->Prop} {e:TypeId} {t:Ty} {v:Value} {xs:List t.den} {cs:List Value} (h:w.ownsRow 0 e t.n v xs.length cs) (hv:jU F w (.list t) v xs) (hn:v≠.slice none 0 0):jU F w (.nls t) v (some xs):=by
 rcases h.2 with⟨h1,_⟩|⟨g,cap,cur,h1,_⟩
 ·exact absurd h1 hn
 ·obtain⟨cs',hv1,p,c,h2,h3,h4,h5⟩:=hv;have e1:v=.slice p xs.length c:=by rw[hv1,h2];rfl
  rw[h1,Value.slice.injEq] at e1;obtain⟨rfl,_,rfl⟩:=e1;refine⟨cs',hv1,.inr ?_⟩;rcases h5 with h5|⟨b,o,ds,k1,k2,k3,k4⟩
  ·exact⟨xs,g,0,cap,[],rfl,h2,h3,h4,.inl h5⟩
  ·cases k1;exact⟨xs,g,0,cap,ds,rfl,h2,h3,h4,.inr ⟨k2,k3,k4⟩⟩
theorem a0l {F:Nat->Prop} {t:Option Ty} {k:K} {p:Part} {v:Value} (h:vW ρ t k=some p) (hM:Mem E ρ W w) (hw:k.wf ρ) (hk:k.holds E ρ w v) (hF:∀ q,fz w E q->F q) (ho:∀ r ver,k=.own r ver->∀ j g,E.has r j g->F g) (hm:∀ r ver i,k=.mrow r ver i->∀ g,E.has r (i+1) g->F g):jU F w p.t v p.x:=by
 have hst:=jK.refl (fz w E) w;cases k<;>try (simp[vW] at h;done)
 case val t x =>
  simp only[vW,ah] at h;subst h;exact fU hF hst hk
 case nil =>
  cases t<;>simp only[vW] at h<;>try(cases h;done)
  rename_i t;cases t<;>simp only[ah] at h<;>try(cases h;done)
  ·subst h;exact⟨[.slice none 0 0],hk,none,0,rfl,by simp,by omega,.inl rfl⟩
  ·subst h;exact⟨[.slice none 0 0],hk,.inl ⟨rfl,rfl⟩⟩
 case own r ver =>
  simp only[vW] at h;have h1:=hM.res r;split at h<;>try(cases h;done)
  all_goals
   rename_i hr;split at h<;>try(cases h;done)
   rename_i hv0;have hv:v=E.sl r:=hk (by rw[hr];exact hv0.symm);rw[hr] at h1;rw[hv]
  ·obtain⟨k1,k2,cs,k3,k4,k5⟩:=h1;have hvr:=lD (E:=E) k3 (aZ (fun c y=>bY hF hst _ c y) _ _ k4) (fun g hg=>ho r ver rfl 0 g (k1.trans hg));split at h
   ·rename_i hn;simp only[ah] at h;subst h;simp only[ay,jo] at hn;exact c0q k3 hvr (k5.2 hn.2)
   ·simp only[ah] at h;subst h;exact hvr
  ·simp only[ah] at h;subst h;exact fU hF hst h1.2
  ·simp only[ah] at h;subst h;rename_i e e2 t ids xss v9;obtain⟨k1,k2,⟨cs,k3,k4,k5⟩,k6,k7,k8⟩:=h1;have hrow:∀ i,i<xss.length->rep (F) w (.list t) [E.inn r i] (rowAt xss i):=fun i hi=>by
    obtain⟨ds,q1,q2,q3⟩:=k8 i (rowAt xss i) (getD_at _ _ _ hi);obtain⟨cs9,e9,r9⟩:=lD (E:=E) (F:=F) q1 (aZ (fun c y=>bY hF hst t c y) _ _ q2) (fun g hg=>ho r ver rfl (i+1) g hg);have r8:=r9;obtain⟨p9,c9,e8,_⟩:=r9;have e7:cs9=[E.inn r i]:=by have:E.inn r i=cs9.headD undef:=e9;rw[this,e8];rfl
    rw[<-e7];exact r8
   have key:∀ (l:List Nat),(∀ i ∈ l,i<xss.length)->chunks (rep (F) w (.list t)) (l.map (E.inn r)) (l.map (rowAt xss)):=by
    intro l
    induction l with
    | nil=>intro _;rfl
    | cons i l ih=>intro hl;exact⟨[E.inn r i],_,rfl,hrow i (hl i (je ..)),ih (fun j hj=>hl j (jd _ hj))⟩
   have hval:rowsOf ids xss=(bW ids xss).map (rowAt xss):=by
    cases ids with
    | some l=>rfl
    | none =>
     simp only[bW,rowsOf];apply List.ext_getElem?;intro i;rw[qo];by_cases hi:i<xss.length
     ·rw[Ae hi];exact getD_at _ _ _ hi
     ·rw[qm (by omega),qm (by simpa using hi)];rfl
   show jU (F) w (.list (.list t)) (E.sl r) (rowsOf ids xss);rw[hval];refine lD (E:=E) (t:=.list t) (e:=e) (cs:=cs) ?_ (by rw[k4];exact key _ k6) (fun g hg=>ho r ver rfl 0 g (k1.trans hg));have e9:(bW ids xss).length=List.length (α:=(Ty.list t).den) ((bW ids xss).map (rowAt xss)):=(ny ..).symm;exact e9 ▸ k3
 case mrow r ver i =>
  simp only[vW] at h;split at h<;>try(cases h;done)
  rename_i hr;split at h<;>try(cases h;done)
  rename_i hv;subst hv;simp only[ah] at h;subst h;have hv:v=E.inn r i:=hk (by rw[hr];rfl);have hi:=hw.2 (by rw[hr];rfl);rw[hr] at hi;obtain⟨cs,q1,q2,q3⟩:=nU hM hr hi;rw[hv];exact lD (E:=E) q1 (aZ (fun c y=>bY hF hst _ c y) _ _ q2) (fun g hg=>hm r ver i rfl g hg)
theorem a3S {t:Option Ty} {k:K} {p:Part} {v:Value} (h:vW ρ t k=some p) (hM:Mem E ρ W w) (hw:k.wf ρ) (hk:k.holds E ρ w v):jU (FZ w) w p.t v p.x:=a0l h hM hw hk (fun q h=>b1j h) (fun r _ _ j g hg=>hM.lt hg) (fun r _ i _ g hg=>hM.lt hg)
theorem a3R {t:Option Ty} {k:K} {p:Part} {v:Value} (h:GL ρ t k=some p) (hM:Mem E ρ W w) (hw:k.wf ρ) (hk:k.holds E ρ w v):jU (FZ w) w p.t v p.x:=by
 have hF:∀ q,fz w E q->FZ w q:=fun q h=>b1j h;cases k
 case ptr r o =>
  simp only[GL] at h;split at h<;>try(cases h;done)
  rename_i ps hr;unfold b8T at h;split at h<;>try(cases h;done)
  rename_i u a qs hd;simp only[ig] at h;obtain⟨⟨p1,p2⟩,h1,rfl⟩:=h;have h2:=hM.res r;rw[hr] at h2;obtain⟨b,cs,e,k1,k3,k4⟩:=h2;obtain⟨b',g1,g2⟩:=hk;rw[g1] at k1;cases k1;obtain⟨rfl,e2⟩:=vF ps o _ _ hd;obtain⟨c1,c2,rfl,n1,n2⟩:=pR k4;obtain⟨c3,c4,rfl,n3,n4⟩:=uN u _ _ _ _ h1 n2;have hl:=sF n1;refine⟨[v],rfl,b,o,c3,by rw[g2],hM.lt (r:=r) (j:=0) g1,fun j x hx=>?_,bY hF (jK.refl _ _) _ _ _ n3.1⟩;rw[yg _ _ _ _ _ _ k3];simp only[List.getElem?_toArray];rw[List.getElem?_append_right (by omega),hl,e2,Ee,Ak (by have:=(jy.1 hx).1;exact this)];exact hx
 case mW r =>
  simp only[GL] at h;split at h<;>try(cases h;done)
  rename_i k9 hr;split at h<;>try(cases h;done)
  rename_i u;simp only[ig] at h;obtain⟨p1,h1,rfl⟩:=h;obtain⟨q1,q2,b,x,e,q3,q4,q5,q6⟩:=hM.kbx r k9 hr;obtain⟨b',g1,g2⟩:=hk (by rw[hr];trivial);rw[g1] at q3;cases q3;obtain⟨cs,h2,h3⟩:=a3S h1 hM q1 q6;have hcs:cs=[x]:=by
   have hl:=dL _ _ _ h3;have hc:=pF _ _ _ h3;rw[<-h2] at hc;obtain⟨_,hx⟩:=one_cell q2 q6 (fun r' ver e=>by
    rw[e] at h1;simp only[vW] at h1;split at h1<;>first|(cases h1;done)|skip
    all_goals
     rename_i hr9;split at h1<;>first|(cases h1;done)|skip
     rename_i hv9;rw[hr9];exact hv9.symm) hM
   rw[hx] at hc;simpa using hc.symm
  subst hcs;refine⟨[v],rfl,b,0,[x],by rw[g2],hM.lt (r:=r) (j:=0) g1,fun j u hu=>?_,h3⟩;rw[qg,yg _ _ _ _ _ _ q4];simpa using hu
 all_goals exact a3S (by simpa only[GL] using h) hM hw hk
theorem PS:∀ {u:Ty} {ks:List K0} {p:Part} {vs:List Value},gY ρ u ks=some p->Mem E ρ W w->(∀ k ∈ ks,KE ρ k)->lT (fz w E) E ρ w ks vs->rep (FZ w) w p.t vs p.x
 | .unit,[],p,vs,h,hM,hw,hk=>by simp only[gY,ah] at h;subst h;exact hk
 | .pair a b,k::ks,p,vs,h,hM,hw,⟨v,vs',e1,e2,e3⟩=>by
  simp only[gY] at h;split at h<;>try(cases h;done)
  rename_i p1 q1 h1 h2;split at h<;>try(cases h;done)
  rename_i hag;simp only[ah] at h;subst h;have ih:=PS h2 hM (fun k hk=>hw k (jd _ hk)) e3;obtain⟨cs,h3,h4⟩:=a3R h1 hM (UC.1 (hw k (je ..))) (xU.1 e2);have hag:p1.t.agg=false:=by simpa using hag
  have hl:=dL _ _ _ h4;have hn:p1.t.n=1:=by obtain⟨pt,px⟩:=p1;cases pt<;>simp_all [Ty.agg,Ty.n];rename_i l;cases l<;>simp_all [Lf.agg,Lf.n]
  rw[hn] at hl
  match cs,hl with
  | [x],_ =>
   have:v=x:=by rw[h3];unfold Ty.toV;rw[hag];rfl
   subst this;exact⟨[v],vs',e1,h4,ih⟩
 | .unit,_::_,p,vs,h,_,_,_=>by simp[gY] at h
 | .pair _ _,[],p,vs,h,_,_,_=>by simp[gY] at h
 | .bool,_,p,vs,h,_,_,_=>by simp[gY] at h
 | .int _,_,p,vs,h,_,_,_=>by simp[gY] at h
 | .lf _,_,p,vs,h,_,_,_=>by simp[gY] at h
 | .list _,_,p,vs,h,_,_,_=>by simp[gY] at h
 | .arr _ _,_,p,vs,h,_,_,_=>by simp[gY] at h
 | .ref _,_,p,vs,h,_,_,_=>by simp[gY] at h
 | .clo _ _,_,p,vs,h,_,_,_=>by simp[gY] at h
 | .nls _,_,p,vs,h,_,_,_=>by simp[gY] at h
theorem b4p {t:Ty} {k:K} {p:Part} {v:Value} (h:WI ρ t k=some p) (hM:Mem E ρ W w) (hw:k.wf ρ) (hk:k.holds E ρ w v):jU (FZ w) w p.t v p.x:=by
 cases k
 case fn g ks =>
  simp only[WI] at h;split at h<;>try(cases h;done)
  simp only[ig] at h;obtain⟨p1,h1,rfl⟩:=h;obtain⟨vs,rfl,h2⟩:=hk;exact⟨[.func (.func g) #[] vs.toArray],rfl,vs,rfl,PS h1 hM hw h2⟩
 all_goals exact a3R (by simpa only[WI] using h) hM hw hk
theorem DJ:∀ {ts:List Ty} {ks:List K} {vc:List Cd} {x:(nest ts).den} {vs:List Value},nY ρ ts ks=some (vc,x)->dH vc->Mem E ρ W w->(∀ k ∈ ks,k.wf ρ)->lJ (fun k v=>K.holds E ρ w k v) ks vs->jE (FZ w) w ts vs x
 | [],[],vc,x,vs,h,hv,hM,hw,hk=>by cases hk;rfl
 | [],_::_,vc,x,vs,h,hv,hM,hw,hk=>by simp[nY] at h
 | _::_,[],vc,x,vs,h,hv,hM,hw,hk=>by simp[nY] at h
 | t::ts,k::ks,vc,x,vs,h,hv,hM,hw,hk=>by
  simp only[nY] at h;split at h<;>try(cases h;done)
  rename_i p h1;split at h<;>try(cases h;done)
  rename_i q vc2 x2 hq h2;simp only[ah,ak] at h;obtain⟨rfl,rfl⟩:=h;cases hk;rename_i v vs hv1 hvs;obtain⟨hva,hvb⟩:=dI.1 hv;obtain⟨cs,rfl,hr⟩:=b4p h1 hM (hw k (je ..)) hv1;exact⟨_,vs,rfl,⟨cs,by unfold Ty.toV;rw[xH _ _ _ hq],tX _ _ _ hq cs _ hr hva⟩,DJ h2 hvb hM (fun k hk=>hw k (jd _ hk)) hvs⟩
theorem b0a {cs:List Ctr} {g:FuncId} (hC:∀ c ∈ cs,aJ P g c) {ks:List K} {vs:List Value} {vc:List Cd} {kk:K} {l:List (Nat × Res)} (h:FW ρ ks cs=some (vc,kk,l)) (hv:dH vc) (hM:Mem E ρ W w) (hw:∀ k ∈ ks,k.wf ρ) (hk:lJ (fun k v=>K.holds E ρ w k v) ks vs)
  {Q:Ending->World->Prop} (hq:∀ v w' E',Mem E' (after ρ l) W w'->Ext E ρ w E' (after ρ l) w'->kk.wf (after ρ l)->kk.holds E' (after ρ l) w' v->Q (.returned v) w'):Calls P g vs.toArray w Q:=by
 induction cs with
 | nil=>simp[FW] at h
 | cons c cs ih =>
  simp only[FW] at h;split at h
  ·rename_i a ha;simp only[ah] at h;obtain⟨vc1,x,l1⟩:=a;simp only[b7S,ak] at h;obtain⟨rfl,rfl,rfl⟩:=h;obtain⟨hv1,hpre,_⟩:=dI.1 hv;unfold a1Y at ha;rcases yR ha with hb|ha
   ·split at hb<;>first|(cases hb;done)|skip
    rename_i hf;simp only[ig] at hb;obtain⟨⟨vc2,x2⟩,hb9,e9⟩:=hb;simp only[a7T,ak] at e9;obtain⟨rfl,rfl,rfl⟩:=e9;refine(hC c (je ..) (FZ w) w _ x2 (fun q hq=>hq) (DJ hb9 hv1 hM hw hk) hpre).mono ?_;rintro e w' ⟨v,rfl,hr,hb⟩;obtain⟨n1,n2⟩:=hM.grows hb;obtain⟨r1,r2⟩:=RD (E:=E) (ρ:=ρ) (w:=w') (F:=fz w' E) (fun q hq=>hq) (VI hf hr);exact hq v w' E n1 n2 r2 r1
   ·obtain⟨E1,m1,m2,m3⟩:=SC ha hv1 hM hw hk;refine(hC c (je ..) (fz w E1) w _ x (fun q hq=>hq.1.1) m3 hpre).mono ?_;rintro e w' ⟨v,rfl,hr,hb⟩;obtain⟨n1,n2⟩:=m1.grows hb;obtain⟨r1,r2⟩:=RD (E:=E1) (ρ:=after ρ l1) (w:=w') (fun q hq=>sH hq.2 (hq.1.elim (fun h=>h.1.2) (fun h=>m1.base q (.inr (au m1.below.size h)))) (fun r j e=>by
     rcases hq.1 with h|h
     ·exact sW h r j e
     ·have:=m1.lt e;omega)) hr
    exact hq v w' E1 n1 (m2.trans n2) r2 r1
  ·exact ih (fun c hc=>hC c (jd _ hc)) h
theorem a2f:∀ {ks:List K} {l:List K0} {vs:List Value},FX ks=some l->(∀ k ∈ ks,k.wf ρ)->lJ (fun k v=>K.holds E ρ w k v) ks vs->lT (fz w E) E ρ w l vs/\∀ k ∈ l,KE ρ k
 | [],l,vs,h,hw,hk=>by simp only[FX,ah] at h;subst h;cases hk;exact⟨rfl,fun k hk=>by cases hk⟩
 | k::ks,l,vs,h,hw,hk=>by
  cases hk;rename_i v vs hv hvs;have step:∀ k0 l',k0K k0=k->FX ks=some l'->l=k0::l'->lT (fz w E) E ρ w l (v::vs)/\∀ k ∈ l,KE ρ k:=fun k0 l' e1 e2 e3=>by
   obtain⟨i1,i2⟩:=a2f e2 (fun k hk=>hw k (jd _ hk)) hvs;subst e3;refine⟨⟨v,vs,rfl,xU.2 (by rw[e1];exact hv),i1⟩,fun k' hk'=>?_⟩;rcases jh.1 hk' with rfl|hk'
   ·exact UC.2 (by rw[e1];exact hw k (je ..))
   ·exact i2 k' hk'
  cases k<;>try (simp[FX] at h;done)
  ·simp only[FX] at h;split at h<;>try(cases h;done)
   simp only[ig] at h;obtain⟨l',h1,h2⟩:=h;exact step _ l' rfl h1 h2.symm
  all_goals
   simp only[FX,ig] at h;obtain⟨l',h1,h2⟩:=h;exact step _ l' rfl h1 h2.symm
theorem a6H:∀ {l:List K0} {ds:List Value},lT (fz w E) E ρ w l ds->lJ (fun k v=>K.holds E ρ w k v) (l.map k0K) ds
 | [],ds,h=>by rw[show ds=[] from h];exact .nil
 | k::l,ds,⟨v,vs',e1,e2,e3⟩=>by rw[e1];exact .cons (xU.1 e2) (a6H e3)
theorem a8g {C:FuncId->List At->List Ctr} (hC:∀ g ts,∀ c ∈ C g ts,aJ P g c) {k:Operand->K} {a:Act} {o:Oper} {vc:List Cd} {kk:K} {l:List (Nat × Res)} (h:wS P C ρ k o.op=some (vc,kk,l)) (hv:dH vc) (hM:Mem E ρ W w) (hw:∀ x,(k x).wf ρ) (hk:∀ x,(k x).holds E ρ w (a.eval x)):DU P E ρ W w o a kk l:=by
 cases ho:o.op<;>rw[ho] at h<;>try (simp[wS] at h;done)
 case makeFunc fn first caps =>
  cases fn<;>try (simp[wS] at h;done)
  rename_i g;simp only[wS] at h;split at h<;>try(cases h;done)
  rename_i hf;have hf:first=#[]:=by simpa using hf
  subst hf;have ha:lJ (fun k v=>K.holds E ρ w k v) (caps.toList.map k) (caps.toList.map a.eval):=by
   generalize caps.toList=cl
   induction cl with
   | nil=>exact .nil
   | cons x xs ih=>exact .cons (hk x) ih
  have harr:caps.map a.eval=(caps.toList.map a.eval).toArray:=by apply Dw;simp
  split at h
  ·rename_i p h1;simp only[ah,ak] at h;obtain⟨_,rfl,rfl⟩:=h;have hr:=a5P h1 ha;refine dV.steps (dV.of (s:=Instr.makeFunc (.func g) ((#[]:Array Operand).map a.eval) (caps.map a.eval)) (by simp only[execOp,ho]) ⟨.func (.func g) #[] (caps.map a.eval),w,E,by simp[Instr.makeFunc],hM,Ext.refl _ _ _,trivial,[.func (.func g) #[] (caps.map a.eval)],rfl,caps.toList.map a.eval,by rw[harr],hr⟩)
  ·simp only[ig,ak] at h;obtain⟨l0,h1,_,rfl,rfl⟩:=h;obtain⟨r1,r2⟩:=a2f h1 (fun k9 hk9=>by obtain⟨q,_,rfl⟩:=jq.1 hk9;exact hw q) ha;exact dV.steps (dV.of (s:=Instr.makeFunc (.func g) ((#[]:Array Operand).map a.eval) (caps.map a.eval)) (by simp only[execOp,ho]) ⟨.func (.func g) #[] (caps.map a.eval),w,E,by simp[Instr.makeFunc],hM,Ext.refl _ _ _,r2,caps.toList.map a.eval,by rw[harr],r1⟩)
 case call c =>
  obtain⟨cl,xs,ts⟩:=c;cases cl<;>try (simp[wS] at h;done)
  rename_i f;simp only[wS] at h;have a4t:=hk f;have c6n:=hw f;have key:∀ {g:FuncId} {ks:List K} {ds:List Value},a.eval f=.func (.func g) #[] ds.toArray->MH P g=true->FW ρ (xs.toList.map k++ks) (C g ((xs.toList.map k++ks).map b6d))=some (vc,kk,l)->(∀ k ∈ ks,k.wf ρ)->lJ (fun k v=>K.holds E ρ w k v) ks ds->DU P E ρ W w o a kk l:=by
   intro g ks ds hfv he hcl hws hks;have ha:lJ (fun k v=>K.holds E ρ w k v) (xs.toList.map k++ks) (xs.toList.map a.eval++ds):=by
    generalize xs.toList=cl
    induction cl with
    | nil=>exact hks
    | cons x xs ih=>exact .cons (hk x) ih
   intro next Q hn
   have hrun:(execOp a.eval o).run P w=.ok (.enter g ((xs.toList.map a.eval++ds).toArray)) w:=by
    have:(xs.map a.eval++ds.toArray)=(xs.toList.map a.eval++ds).toArray:=by apply Dw;simp
    simp only[execOp,ho,resolve,Deferred.ofValue,hfv,eu,Sem.run_pure,Result.andThen_ok,invoke];rw[<-this];simp only[Array.empty_append];exact XZ he
   unfold Oper.wp;rw[hrun,Oper.upon_enter];refine(b0a (fun c hc=>hC g _ c hc) hcl hv hM (fun k9 hk9=>?_) ha (Q:=fun e w'=>∃ v,e=.returned v/\next (a.put o.dst v) w') (fun v w' E' m1 m2 m3 m4=>⟨v,rfl,hn v w' E' m1 m2 m3 m4⟩)).mono ?_
   ·rcases tu.1 hk9 with hk9|hk9
    ·obtain⟨q,_,rfl⟩:=jq.1 hk9;exact hw q
    ·exact hws k9 hk9
   ·rintro e w' ⟨v,rfl,h⟩;exact h
  split at h<;>try(cases h;done)
  ·rename_i g t cx hkf;split at h<;>try(cases h;done)
   rename_i he;simp only[ay] at he;rw[hkf] at a4t;obtain⟨cs,hfv,ds,hcs,hrep⟩:=a4t;have hfv:a.eval f=.func (.func g) #[] ds.toArray:=by rw[hfv,hcs];rfl
   obtain⟨c1,c2⟩:=a0K (E:=E) (ρ:=ρ) t cx ds he.2 hrep (fun q h=>h);exact key hfv he.1 h c2 c1
  ·rename_i g l0 hkf;split at h<;>try(cases h;done)
   rename_i he;rw[hkf] at a4t c6n;obtain⟨ds,hfv,hrep⟩:=a4t;exact key hfv he h (fun k9 hk9=>by
    obtain⟨q,hq,rfl⟩:=jq.1 hk9;exact UC.1 (c6n q hq)) (a6H hrep)
end
end
end Go.Proofs.YtbkocjmmbkifjaaGreat
