/-
  Lemmas for the theorem vrelative28_holds, part 8 of 35.
-/
import Derived.Test.YtbkocjmmbkifjaaGreatQr07
namespace Go.Proofs.YtbkocjmmbkifjaaGreat
open Go Go.RowKit
theorem Bc:type_of% @List.length_drop:=@List.length_drop
theorem Ee:type_of% @Nat.add_sub_cancel_left:=@Nat.add_sub_cancel_left
theorem Cb:type_of% @and_true:=@and_true
theorem Bl:type_of% @Nat.not_lt_zero:=@Nat.not_lt_zero
theorem iy:type_of% @decide_eq_false:=@decide_eq_false
theorem Cc:type_of% @Option.isSome_iff_exists:=@Option.isSome_iff_exists
theorem Dw:type_of% @Array.ext':=@Array.ext'
section
set_option linter.unusedSimpArgs false
set_option linter.unusedVariables false
section
variable {P:Program} {E:Env} {ρ:Nat->Res} {W w:World}
theorem a8O {T:Told} {t:TypeId} {ps:List Part} {o:Nat} {p:Part} {F:Nat->Prop} {cs:List Value} (h:a4A P T t ps o=some p) (hc:chunks (iP F w) cs ps):fitsT P t p.t=true/\∃ c,(cs.drop o).take c.length=c/\rep F w p.t c p.x:=by
 unfold a4A at h;split at h<;>try(cases h;done)
 rename_i a p1 qs hd;obtain⟨rfl,rfl⟩:=vF ps o _ _ hd;obtain⟨c1,c2,rfl,k1,k2⟩:=pR hc;have hl:=sF k1;split at h
 ·rename_i hf;simp only[ah] at h;subst h;obtain⟨c3,c4,rfl,k3,k4⟩:=k2;exact⟨hf,c3,by rw[<-hl,Au,Di],k3.1⟩
 ·split at h<;>try(cases h;done)
  rename_i ty _;split at h<;>try(cases h;done)
  rename_i q q2 hp;split at h<;>try(cases h;done)
  rename_i hf;simp only[ah] at h;subst h;obtain⟨c3,c4,rfl,k3,k4⟩:=uN ty _ _ _ _ hp k2;exact⟨hf,c3,by rw[<-hl,Au,Di],k3.1⟩
theorem a7I {t:TypeId} {F:Nat->Prop}:∀ {ps:List Part} {o:Nat} {p:Part} {cs:List Value},b3X P t ps o=some p->chunks (iP F w) cs ps->fitsT P t p.t=true/\∃ c,(cs.drop o).take c.length=c/\rep F w p.t c p.x
 | [],o,p,cs,h,hc=>by simp[b3X] at h
 | p0::ps,o,p,_,h,⟨c1,c2,h1,h2,h3⟩=>by
  have hl:=h2.len;simp only[b3X] at h;split at h
  ·rename_i ho;obtain⟨k1,c,k2,k3⟩:=a7I h h3;refine⟨k1,c,?_,k3⟩;rw[h1,List.drop_append,List.drop_eq_nil_of_le (by omega),List.nil_append,hl];exact k2
  ·rename_i ho;split at h<;>try(cases h;done)
   rename_i o' q hq;split at h<;>try(cases h;done)
   rename_i hh;obtain⟨rfl,hf⟩:=hh;simp only[ah] at h;subst h;have hr:=wE _ _ _ _ _ c1 hq h2.1;have hn:=dL _ _ _ hr;refine⟨hf,_,?_,hr⟩;rw[hn];rw[jk,Bc] at hn;rw[h1,List.drop_append_of_le_length (by omega),List.take_append_of_le_length (by rw[Bc];omega)]
theorem a3a {T:Told} {t:TypeId} {ps:List Part} {o:Nat} {p:Part} {F:Nat->Prop} {cs:List Value} (h:a6A P T t ps o=some p) (hc:chunks (iP F w) cs ps):fitsT P t p.t=true/\∃ c,(cs.drop o).take c.length=c/\rep F w p.t c p.x:=by
 unfold a6A at h;split at h
 ·rename_i p' h';simp only[ah] at h;subst h;exact a8O h' hc
 ·exact a7I h hc
theorem zM {t:TypeId} {ty:Ty} (h:fitsT P t ty=true) {b o:Nat} {ds:List Value} {F:Nat->Prop} {x:ty.den} (hs:ty.still=true) (hc:w.there b o ds.length) (hr:rep F w ty ds x):(storeVar t ⟨b,o,none⟩ (ty.toV ds)).run P w=.ok () (w.setCells b o ds):=by
 obtain⟨⟨i,hi,hn⟩,ha⟩:=fM h;have hl:=dL ty _ _ hr;have h1:=yV ty hs _ _ hr;have hst:=run_storeCells_cells (P:=P) b o ds 0 w (fun j hj=>by simpa using (hc j hj).1) (fun j hj=>by simpa using (hc j hj).2) (fun v hv=>by have:=h1 v hv;simp only[dB,ay] at this;exact this.1);simp only[Nat.add_zero] at hst;have hz:¬ (ty.toV ds).cells.size≠i.size:=by rw[pF ty _ _ hr];simp[hn,hl]
 unfold storeVar;rw[eu,run_sizeOf hi];simp only[Result.andThen_ok,pF ty _ _ hr];have hz2:¬ ds.length≠i.size:=by rw[hl,hn];simp
 simp[hl,hn,hst]
theorem jW (b:Nat):∀ (vs:List Value) (o:Nat) (w:World) (cs:List Value) (e:TypeId),w.heap[b]?=some (.cells cs.toArray e (0,0))->o+vs.length<=cs.length->(w.setCells b o vs).heap[b]?=some (.cells (cs.take o++vs++cs.drop (o+vs.length)).toArray e (0,0))
 | [],o,w,cs,e,h,_=>by simpa [World.setCells] using h
 | v::vs,o,w,cs,e,h,hl=>by
  have h1:(w.setCell ⟨b,o,none⟩ v).heap[b]?=some (.cells (cs.set o v).toArray e (0,0)):=by simp only[World.setCell,Array.getElem?_modify,Du,h,Option.map_some];simp
  simp only[List.length_cons] at hl;have h2:=jW b vs (o+1) (w.setCell ⟨b,o,none⟩ v) (cs.set o v) e h1 (by simp;omega);have:w.setCells b o (v::vs)=(w.setCell ⟨b,o,none⟩ v).setCells b (o+1) vs:=by first|rfl|simp[World.setCells]
  rw[this,h2];have la:(cs.take o).length=o:=by rw[jk];omega
  have e9:cs.set o v=cs.take o++([v]++cs.drop (o+1)):=by rw[List.set_eq_take_append_cons_drop,dn (by omega)];rfl
  have e1:(cs.set o v).take (o+1)=cs.take o++[v]:=by rw[e9,List.take_append,la,jf (by omega),Ee];rfl
  have e2:(cs.set o v).drop (o+1+vs.length)=cs.drop (o+(vs.length+1)):=by rw[List.drop_set_of_lt (by omega)];congr 1;omega
  rw[e1,e2];simp
theorem a5r {r b:Nat} {cs vs:List Value} {e:TypeId} {o:Nat} (hr:E.blk r=some b) (hb:w.heap[b]?=some (.cells cs.toArray e (0,0))) (hl:o+vs.length<=cs.length) (hn:∀ v ∈ cs,fF v=true):lH E w (w.setCells b o vs) (fun q=>q=r):=by
 have hh:=jW b vs o w cs e hb hl;have hsz:∀ (vs:List Value) (o:Nat) (w:World),(w.setCells b o vs).heap.size=w.heap.size/\(w.setCells b o vs).os=w.os/\(w.setCells b o vs).tape=w.tape/\(w.setCells b o vs).output=w.output/\∀ q,q≠b->(w.setCells b o vs).heap[q]?=w.heap[q]?:=by
  intro vs
  induction vs with
  | nil=>intro o w;exact⟨rfl,rfl,rfl,rfl,fun _ _=>rfl⟩
  | cons v vs ih =>
   intro o w;obtain⟨h1,h2,h3,h4,h5⟩:=ih (o+1) (w.setCell ⟨b,o,none⟩ v);exact⟨h1.trans (by simp[World.setCell]),h2,h3,h4,fun q hq=>(h5 q hq).trans (Below.heap_setCell _ _ _ _ hq)⟩
 obtain⟨h1,h2,h3,h4,h5⟩:=hsz vs o w;refine⟨h2,h3,h4,by omega,fun q hq hne=>h5 q (fun e=>hne r 0 rfl (by show E.blk r=some q;rw[hr,e])),fun q i n hc=>?_⟩;by_cases e9:q=b
 ·subst e9;rw[yg _ _ _ _ _ _ hb] at hc;have:=hn (.int .u32 n) (by simp at hc;exact Dh hc);simp[fF] at this
 ·rw[<-hc];exact Dz (w:=w) (h5 q e9)
theorem gG {ρ:Nat->Res}:∀ (l m:List (Nat × Res)),after ρ (l++m)=after (after ρ l) m
 | [],_=>rfl
 | (r,x)::l,m=>gG l m
theorem a9s {t:TypeId} {ps qs:List Part} {o:Nat} {p:Part} {cs vs:List Value} {F:Nat->Prop} (h:a5q P t ps o p=some qs) (hc:chunks (iP F w) cs ps) (hv:rep F w p.t vs p.x) :
  fitsT P t p.t=true/\p.t.still=true/\o+vs.length<=cs.length/\chunks (iP F w) (cs.take o++vs++cs.drop (o+vs.length)) qs:=by
 unfold a5q at h;split at h<;>try(cases h;done)
 rename_i a b hd;split at h<;>try(cases h;done)
 rename_i m c hd2;split at h<;>try(cases h;done)
 rename_i hf;simp only[ay] at hf;simp only[ah] at h;obtain⟨rfl,h1⟩:=vF ps o _ _ hd;obtain⟨rfl,h2⟩:=vF b _ _ _ hd2;obtain⟨c1,c2,rfl,k1,k2⟩:=pR hc;obtain⟨c3,c4,rfl,k3,k4⟩:=pR k2;have l1:=sF k1;have l3:=sF k3;have lv:=dL _ _ _ hv;have e1:(c1++(c3++c4)).take o=c1:=by rw[<-h1,<-l1,Di]
 have e2:(c1++(c3++c4)).drop (o+vs.length)=c4:=by rw[<-h1,<-l1,lv,<-h2,<-l3,<-Ej,Au,Au]
 refine⟨hf.1,hf.2,by simp only[dh];omega,?_⟩;rw[e1,e2,<-h];exact qQ (qQ k1 (JM _ _ _ hf.2 hv)) k4
theorem a1r {F:Nat->Prop} {cs:List Value} {ps:List Part} (h:chunks (iP F w) cs ps):∀ v ∈ cs,fF v=true:=by have:=DY (p:=dB) (fun c p (hp:iP F w c p)=>yV p.t hp.2 c p.x hp.1) ps cs h;intro v hv;have:=this v hv;simp only[dB,ay] at this;exact this.2
theorem a9U {T:Told} {k:Operand->K} {ev:Operand->Value} {o:Oper} {vc:List Cd} {kk:K} {l:List (Nat × Res)} (h:sD P T ρ k o.dst o.op=some (vc,kk,l)) (hM:Mem E ρ W w) (hw:∀ x,(k x).wf ρ) (hk:∀ x,(k x).holds E ρ w (ev x)):dV P E ρ W w o ev kk l:=by
 cases ho:o.op<;>rw[ho] at h<;>try (simp[sD] at h;done)
 case alloc t =>
  simp only[sD] at h;split at h<;>try(cases h;done)
  rename_i r ty hd ht;split at h<;>try(cases h;done)
  rename_i hz;simp only[ay] at hz;obtain⟨i,z,c,h1,h2,h3,h4,h5⟩:=zG hz.2;split at h
  ·have h9:=h;unfold b6f at h9;split at h9<;>first|(cases h9;done)|skip
   rename_i ho9;obtain⟨u,hu,hku⟩:∃ u,c=[u]/\(a0r ty).holds E ρ w u:=by
    have hr:=DR (F:=fz w E) (w:=w) ty c h3;cases ty<;>try (simp[a0r,K.one] at ho9;done)
    case list t9 =>
     simp only[Ty.zc,ah] at h3;exact⟨.slice none 0 0,h3.symm,rfl⟩
    all_goals
     simp only[a0r,K.one,ay,zq,jc] at ho9;have hl:=dL _ c _ hr;rw[ho9.2] at hl
     match c,hl with
     | [u],_=>exact⟨u,rfl,[u],by unfold Ty.toV;rw[ho9.1.1];rfl,hr⟩
   subst hu;obtain⟨E',k1,k2,k3,k4⟩:=b6g hM hz.1 (by unfold a0r;split<;>trivial) hku (fun r' ver e=>by unfold a0r at e;split at e<;>cases e) t h;refine dV.of (by simp only[execOp,ho];rfl) ⟨.pointer (some ⟨w.heap.size,0,none⟩),_,E',?_,k1,k2,k3,k4⟩;rw[show (#[u]:Array Value)=z.cells from by rw[<-Array.toArray_toList (xs:=z.cells),h4]];simp[Instr.alloc,zeroValue,typeInfo,h1,h2,newVar,newRow,eu]
  ·obtain⟨E',k1,k2,k3,k4⟩:=ZG T hM hz.1 (DR ty c h3) t h;refine dV.of (by simp only[execOp,ho];rfl) ⟨.pointer (some ⟨w.heap.size,0,none⟩),_,E',?_,k1,k2,k3,k4⟩;rw[<-h4];simp[Instr.alloc,zeroValue,typeInfo,h1,h2,newVar,newRow,eu]
 case box t x =>
  simp only[sD] at h;split at h<;>try(cases h;done)
  rename_i r p l' hd ht;split at h<;>try(cases h;done)
  rename_i hz;simp only[ay] at hz;obtain⟨E1,m1,m2,cs,hv,hr⟩:=oC ht hM (hw x) (hk x);have hl:l'=[]:=by cases l'<;>simp_all
  subst hl;obtain⟨E',k1,k2,k3,k4⟩:=ZG T m1 hz.1 hr t h;refine dV.of (by simp only[execOp,ho];rfl) ⟨.pointer (some ⟨w.heap.size,0,none⟩),_,E',?_,k1,m2.trans k2,k3,k4⟩;rw[hv];simp[Instr.box,newVar,newRow,eu,pF p.t cs p.x hr]
 case load t x =>
  simp only[sD] at h;split at h<;>try(cases h;done)
  rename_i r off hx;split at h<;>try(cases h;done)
  rename_i ps hr;simp only[ig,ak] at h;obtain⟨p,h1,_,rfl,rfl⟩:=h;have hkx:=hk x;rw[hx] at hkx;obtain⟨b,hb,hp⟩:=hkx;have hres:=hM.res r;rw[hr] at hres;obtain⟨b',cs,e,k1,k3,k4⟩:=hres;rw[hb] at k1;cases k1;obtain⟨hf,c,hc,hrep⟩:=a3a h1 k4;have hrg:w.rangeAt b off c:=fun j v hv=>by rw[yg _ _ _ _ _ _ k3,<-hv];simp only[List.getElem?_toArray];rw[<-hc,List.getElem?_take,dn (by have:=(jy.1 hv).1;exact this),List.getElem?_drop]
  refine dV.of (by simp only[execOp,ho];rfl) ⟨p.t.toV c,w,E,?_,hM,Ext.refl _ _ _,trivial,c,rfl,hrep⟩;rw[hp];simp only[Instr.loadAt,Instr.sureAddr,eu,Sem.run_pure,Result.andThen_ok];exact kM hf hrg hrep
 case store t x y =>
  simp only[sD] at h;split at h<;>try(cases h;done)
  rename_i r off p l' hx hy;split at h<;>try(cases h;done)
  rename_i ps hr;split at h<;>try(cases h;done)
  rename_i qs hs;simp only[ah,ak] at h;obtain⟨_,rfl,rfl⟩:=h;have hkx:=hk x;rw[hx] at hkx;obtain⟨E1,m1,m2,vs,hv,hrep⟩:=oC hy hM (hw y) (hk y);have hr2:after ρ l' r=.box ps:=by
   cases hky:k y with
   | nil =>
    rw[hky] at hy;simp only[wR] at hy;split at hy<;>first|(cases hy;done)|skip
    all_goals
     simp only[ah,ak] at hy;rw[<-hy.2];exact hr
   | own r2 v2 =>
    rw[hky] at hy;simp only[wR,tH] at hy;split at hy<;>first|(cases hy;done)|skip
    ·rename_i hr3;split at hy<;>first|(cases hy;done)|skip
     simp only[ah,ak] at hy;rw[<-hy.2];show bJ ρ r2 _ r=_;rw[aS _ _ (fun e=>by rw[<-e,hr] at hr3;cases hr3)];exact hr
    ·split at hy<;>first|(cases hy;done)|skip
     simp only[ah,ak] at hy;rw[<-hy.2];exact hr
    ·rename_i hr3;split at hy<;>first|(cases hy;done)|skip
     simp only[ah,ak] at hy;rw[<-hy.2];show bJ ρ r2 _ r=_;rw[aS _ _ (fun e=>by rw[<-e,hr] at hr3;cases hr3)];exact hr
   | val t x =>
    rw[hky] at hy;simp only[wR,tH,ah,ak] at hy;rw[<-hy.2];exact hr
   | mrow r2 v2 i2 =>
    rw[hky] at hy;simp only[wR,tH] at hy;split at hy<;>first|(cases hy;done)|skip
    rename_i hr3;split at hy<;>first|(cases hy;done)|skip
    simp only[ah,ak] at hy;rw[<-hy.2];show bJ ρ r2 _ r=_;rw[aS _ _ (fun e=>by rw[<-e,hr] at hr3;cases hr3)];exact hr
   | _=>rw[hky] at hy;simp[wR,tH] at hy
  have c8K:=m2.holds _ _ (by have:=hw x;rwa [hx] at this) hkx;obtain⟨b,hb,hp⟩:=c8K;have hres:=m1.res r;rw[hr2] at hres;obtain⟨b',cs,e,k1,k3,k4⟩:=hres;rw[hb] at k1;cases k1;obtain⟨hf,hst,hle,hch⟩:=a9s hs k4 hrep;have hg:=a5r (vs:=vs) hb k3 hle (a1r k4);have hI:∀ i,bK (E1.inn r i)=none:=fun i=>m1.inner r i (by rw[hr2];exact ru _);have hsz:=hg.size;have hF:∀ q,fz w E1 q->fz (w.setCells b off vs) (E1.put r (some b) (E1.sl r)) q:=AU (ρ:=ρ) hsz (.inr (.inl hb.symm));have hx9:nD (E1.put r (some b) (E1.sl r)) (w.setCells b off vs) r (.box qs) :=
   ⟨b,_,e,by show bJ E1.blk r _ r=_;rw[aF],jW b vs off w cs e k3 hle,aZ (fun c p=>iP.mono hF hg.stay) _ _ hch⟩
  obtain⟨n1,n2⟩:=m1.turn r hg (some b) (E1.sl r) (.box qs) hx9 (.inr (.inl hb.symm)) rfl (fun k e=>by cases e) (fun h=>by rw[hr2] at h;exact h.elim) (fun _=>⟨trivial,hb.symm⟩) (fun v h=>by rw[hr2] at h;exact h.elim) (fun v _ hv=>hv.elim) (fun v h=>h.elim);refine⟨.skip,undef,w.setCells b off vs,_,?_,.inr ⟨rfl,rfl⟩,by rw[gG];exact n1,by rw[gG];exact m2.trans n2,trivial,trivial⟩;simp only[execOp,ho,eu,hp,hv,Instr.storeAt,Instr.sureAddr,Sem.run_pure,Result.andThen_ok];rw[zM hf hst (fun j hj=>⟨by rw[yg _ _ _ _ _ _ k3];simp;omega,by simp[World.frozen?,k3]⟩) hrep];rfl
 case fieldAddr s x i =>
  simp only[sD] at h;split at h<;>try(cases h;done)
  rename_i r off hx;split at h<;>try(cases h;done)
  rename_i ps hr;simp only[ig,ak] at h;obtain⟨q,h1,_,rfl,rfl⟩:=h;have hkx:=hk x;rw[hx] at hkx;have hwx:=hw x;rw[hx] at hwx;unfold a2w at h1;split at h1<;>first|(cases h1;done)|skip
  rename_i fs hu;split at h1<;>first|(cases h1;done)|skip
  rename_i f hf;split at h1<;>first|(cases h1;done)|skip
  rename_i j hj;split at h1<;>first|(cases h1;done)|skip
  rename_i hz;simp only[ah] at h1;subst h1;obtain⟨b,hb,hp⟩:=hkx;refine dV.of (s:=Instr.fieldAt s (ev x) i) (by simp only[execOp,ho]) ⟨.pointer (some ⟨b,off+f.offset,none⟩),w,E,?_,hM,Ext.refl _ _ _,hwx,⟨b,hb,rfl⟩⟩;simp[hp,Instr.fieldAt,eu,ku hu w,hf,Instr.sureAddr,fieldPlace,run_sizeOf hj,hz,Ba]
 case indexAddr s x i =>
  simp only[sD] at h;split at h<;>try(cases h;done)
  rename_i r off kd n hx hi;split at h<;>try(cases h;done)
  rename_i ps hr;simp only[ig,ak] at h;obtain⟨q,h1,_,rfl,rfl⟩:=h;have hkx:=hk x;rw[hx] at hkx;have hki:=hk i;rw[hi] at hki;have hwx:=hw x;rw[hx] at hwx;unfold a6a at h1;split at h1<;>first|(cases h1;done)|skip
  rename_i m e hu;split at h1<;>first|(cases h1;done)|skip
  rename_i j k9 hj;split at h1<;>first|(cases h1;done)|skip
  rename_i hlt;simp only[ah] at h1;subst h1;obtain⟨b,hb,hp⟩:=hkx;refine dV.of (s:=Instr.indexAt s (ev x) (ev i)) (by simp only[execOp,ho]) ⟨.pointer (some ⟨b,off+k9*j.size,none⟩),w,E,?_,hM,Ext.refl _ _ _,hwx,⟨b,hb,rfl⟩⟩;rw[hp,kT hki];have h0:(0:Int)<=Int.ofNat k9:=oh _;have h2:Int.ofNat k9<(m:Int):=by simp;omega
  simp[Instr.indexAt,asIntOf,eu,ku hu w,Instr.sureAddr,run_sizeOf hj,Ba,hlt]
end
end
set_option linter.unusedSimpArgs false
set_option linter.unusedVariables false
def dK (x:Rat):aI:=⟨true,x,dig x.num.natAbs,dig x.den⟩
def c9a (x:Int):iJ:=⟨true,x,dig x.natAbs⟩
structure Coe (a b:Ty) where
 c:a.den->List Cd
 f:a.den->b.den
def OM:(a b:Lf)->Option (Coe (.lf a) (.lf b))
 | .fO,.rat=>some ⟨fun x=>[aI.ok x=true],fun x=>aI.x x⟩
 | .IG,.big=>some ⟨fun x=>[iJ.ok x=true],fun x=>iJ.x x⟩
 | .rat,.fO=>some ⟨fun _=>[],fun x=>dK x⟩
 | .big,.IG=>some ⟨fun _=>[],fun x=>c9a x⟩
 | _,_=>none
def fV {α:Type} (p:α->Prop):List α->Prop
 | []=>True
 | x::xs=>p x/\fV p xs
instance IW {α:Type} {p:α->Prop} [h:∀ x,Decidable (p x)]:(l:List α)->Decidable (fV p l)
 | []=>.isTrue trivial
 | x::xs=>match h x with
  | .isTrue h1=>match IW xs with
   | .isTrue h2=>.isTrue ⟨h1,h2⟩
   | .isFalse h2=>.isFalse fun q=>h2 q.2
  | .isFalse h1=>.isFalse fun q=>h1 q.1
def qO (a b:Ty):Option (Coe a b):=if h:a=b then some ⟨fun _=>[],fun x=>h ▸ x⟩ else none
def orC {α:Type}:Option α->Option α->Option α
 | some x,_=>some x
 | none,y=>y
def a7b {a b a' b':Ty}:Option (Coe a a')->Option (Coe b b')->Option (Coe (.pair a b) (.pair a' b'))
 | some p,some q=>some ⟨fun x=>p.c x.1++q.c x.2,fun x=>(p.f x.1,q.f x.2)⟩
 | _,_=>none
def b2k {a b:Ty} (q:Coe a b):Coe (.list a) (.list b):=⟨fun xs=>[⟨fV (fun x=>dH (q.c x)) xs,IW xs⟩],fun xs=>List.map q.f xs⟩
def c7c {n:Nat} {a b:Ty} (q:Coe a b):Coe (.arr n a) (.arr n b):=⟨fun xs=>[⟨fV (fun x=>dH (q.c x)) xs,IW xs⟩],fun xs=>List.map q.f xs⟩
def c9c {a b:Ty} (q:Coe a b):Coe (.ref a) (.ref b):=⟨q.c,q.f⟩
def c8w {f:Nat} {a b:Ty} (q:Coe a b):Coe (.clo f a) (.clo f b):=⟨q.c,q.f⟩
def c0F:(a b:Ty)->(l:Lf)->Option (Coe (.pair a b) (.lf l))
 | .lf .big,.pair (.lf .big) .unit,.rat=>some ⟨fun x=>[(0:Int)<(show Int from x.2.1),Int.gcd x.1 x.2.1=1],fun x=>Rat.divInt x.1 x.2.1⟩
 | _,_,_=>none
def b9F:(t:Ty)->(l:Lf)->Option (Coe (.list t) (.lf l))
 | .int .u32,.gsl=>some ⟨fun xs=>[List.length (α:=Int) xs≠0,⟨fV (α:=Int) (fun x=>0<=x) xs,IW (α:=Int) xs⟩],fun xs=>List.map Int.toNat xs⟩
 | _,_=>none
theorem JI {n d:Int} (h1:0<d) (h2:Int.gcd n d=1):(Rat.divInt n d).num=n/\((Rat.divInt n d).den:Int)=d:=by
 obtain⟨k,rfl⟩:=uf (Int.le_of_lt h1);have hk:k≠0:=by omega
 have h3:n.natAbs.gcd k=1:=h2;have e:Rat.divInt n (k:Int)=⟨n,k,hk,h3⟩:=Rat.mk_eq_divInt.symm;rw[e];exact⟨rfl,rfl⟩
def kN:(a b:Ty)->Option (Coe a b)
 | .pair a b,.lf l=>c0F a b l
 | .list t,.lf l=>b9F t l
 | .lf a,.lf b=>orC (qO (.lf a) (.lf b)) (OM a b)
 | .list a,.list b=>orC (qO (.list a) (.list b)) ((kN a b).map b2k)
 | .arr n a,.arr m b=>if h:n=m then orC (qO (.arr n a) (.arr m b)) ((kN a b).map fun q=>h ▸ c7c q) else none
 | .ref a,.ref b=>orC (qO (.ref a) (.ref b)) ((kN a b).map c9c)
 | .pair a b,.pair a' b'=>orC (qO (.pair a b) (.pair a' b')) (a7b (kN a a') (kN b b'))
 | .clo f a,.clo g b=>if h:f=g then orC (qO (.clo f a) (.clo g b)) ((kN a b).map fun q=>h ▸ c8w q) else none
 | .nls a,.nls b=>qO (.nls a) (.nls b)
 | .nls a,.list b=>if h:a=b then some ⟨fun _=>[],fun x=>h ▸ Option.getD (α:=List a.den) x []⟩ else none
 | a,b=>qO a b
theorem b3e {w:World} {v:Value} {x:Rat} (h:RQ w v x):∃ b p c b' p' c',v=.agg #[.bool b,.slice p (dig x.num.natAbs).length c,.bool b',.slice p' (dig x.den).length c']/\Rd w (.slice p (dig x.num.natAbs).length c) (dig x.num.natAbs)/\Rd w (.slice p' (dig x.den).length c') (dig x.den):=by obtain⟨b,s,c,t,h1,⟨s',e1,r1⟩,⟨t',e2,r2⟩⟩:=h;simp only[Value.agg.injEq,Array.mk.injEq,List.cons.injEq,Cb] at e1 e2;obtain⟨p,q,k1,_⟩:=r1.form;obtain⟨p',q',k2,_⟩:=r2.form;rw[k1] at r1;rw[k2] at r2;rw[h1,e1.1,e1.2,e2.1,e2.2,k1,k2];exact⟨_,_,_,_,_,_,rfl,r1,r2⟩
theorem a5I {w:World} {v:Value} {x:Int} (h:eY w v x):∃ b p c,v=.agg #[.bool b,.slice p (dig x.natAbs).length c]/\Rd w (.slice p (dig x.natAbs).length c) (dig x.natAbs):=by obtain⟨s,h1,h2⟩:=h;obtain⟨p,q,k1,_⟩:=h2.form;rw[k1] at h2;rw[h1,k1];exact⟨_,_,_,rfl,h2⟩
theorem b0v {F:Nat->Prop} {w:World} {a b:Lf} {q:Coe (.lf a) (.lf b)} (h:OM a b=some q) (cs:List Value) (x:a.den) (hr:Lf.rep w cs a x) (hc:dH (q.c x)):Lf.rep w cs b (q.f x):=by
 cases a<;>cases b<;>first|(simp[OM] at h;done)|skip
 ·simp only[OM,ah] at h;subst h;have hr:RQ w (.agg cs.toArray) x:=hr;obtain⟨b,p,c,b',p',c',h1,h2,h3⟩:=b3e hr;have e9:cs=[.bool b,.slice p (dig (Rat.num x).natAbs).length c,.bool b',.slice p' (dig (Rat.den x)).length c']:=by simpa using h1
  exact⟨b,p,c,b',p',c',e9,hr.raw,h2,h3⟩
 ·simp only[OM,ah] at h;subst h;have hr:eY w (.agg cs.toArray) x:=hr;obtain⟨b,p,c,h1,h2⟩:=a5I hr;have e9:cs=[.bool b,.slice p (dig (Int.natAbs x)).length c]:=by simpa using h1
  exact⟨b,p,c,e9,hr.a9d,h2⟩
 ·simp only[OM,ah] at h;subst h;obtain⟨b,p,c,b',p',c',h1,h2,_⟩:=hr;have hc:aI.ok x=true:=hc.1;rw[hc] at h2;exact h2.rq
 ·simp only[OM,ah] at h;subst h;obtain⟨b,p,c,h1,h2,_⟩:=hr;have hc:iJ.ok x=true:=hc.1;rw[hc] at h2;exact h2.int
theorem yG {α β:Type} {R:List Value->α->Prop} {S:List Value->β->Prop} {p:α->Prop} {f:α->β} (h:∀ c x,R c x->p x->S c (f x)):∀ (xs:List α) (cs:List Value),chunks R cs xs->fV p xs->chunks S cs (xs.map f)
 | [],_,hc,_=>hc
 | x::xs,_,⟨c1,c2,h1,h2,h3⟩,hp=>⟨c1,c2,h1,h _ _ h2 hp.1,yG h xs c2 h3 hp.2⟩
theorem QS {α β:Type} (f:α->β) (xs:List α):(xs.map f).length=xs.length:=by simp
theorem nO {F:Nat->Prop} {w:World} {a b:Ty} {q:Coe a b} (h:qO a b=some q) (cs:List Value) (x:a.den) (hr:rep F w a cs x):rep F w b cs (q.f x):=by
 unfold qO at h;split at h
 ·rename_i e;subst e;simp only[ah] at h;subst h;exact hr
 ·cases h
theorem yR {α:Type} {x y:Option α} {z:α} (h:orC x y=some z):x=some z\/y=some z:=by
 cases x with
 | none=>exact .inr h
 | some a=>exact .inl h
theorem b0g {w:World} {b o:Nat} {v:Value} (h:w.cell? ⟨b,o,none⟩=some v):b<w.heap.size:=by
 simp only[World.cell?] at h;by_cases hb:b<w.heap.size
 ·exact hb
 ·rw[Array.getElem?_eq_none (by omega)] at h;cases h
theorem b4r {F:Nat->Prop} {w:World} {b o:Nat}:∀ {ds:List Value} {x:List Int},w.rangeAt b o ds->chunks (rep F w (.int .u32)) ds x->fV (fun x:Int=>0<=x) x->∀ i,i<x.length->w.cell? ⟨b,o+i,none⟩=some (.int .u32 (gr (List.map Int.toNat x) i:Nat)):=by
 intro ds x
 induction x generalizing ds o with
 | nil=>intro _ _ _ i hi;exact absurd hi (Bl i)
 | cons y ys ih =>
  intro hr hc hp i hi;obtain⟨c1,c2,rfl,h1,h2⟩:=hc;have h1:c1=[.int .u32 y]:=h1;subst h1;cases i with
  | zero =>
   have:=hr 0 _ rfl;rw[this];show some (Value.int .u32 y)=some (.int .u32 ((y.toNat:Nat):Int));rw[Int.toNat_of_nonneg hp.1]
  | succ i =>
   have hr2:w.rangeAt b (o+1) c2:=fun j v hv=>by have:=hr (j+1) v (by simpa using hv);rw[show o+1+j=o+(j+1) by omega];exact this
   have:=ih hr2 h2 hp.2 i (by simpa using hi);rw[show o+(i+1)=o+1+i by omega,this];rfl
theorem tX {F:Nat->Prop} {w:World}:(a b:Ty)->(q:Coe a b)->kN a b=some q->(cs:List Value)->(x:a.den)->rep F w a cs x->dH (q.c x)->rep F w b cs (q.f x):=by
 intro a
 induction a with
 | lf a =>
  intro b q h cs x hr hc;cases b<;>try (simp[kN,qO] at h;done)
  rcases yR h with h|h
  ·exact nO h cs x hr
  ·exact b0v (F:=F) h cs x hr hc
 | list a ih =>
  intro b q h cs x hr hc;cases b<;>try (simp[kN,qO] at h;done)
  case lf l =>
   simp only[kN] at h;unfold b9F at h;split at h<;>try(cases h;done)
   simp only[ah] at h;subst h;obtain⟨p,c,rfl,k2,k3,k4⟩:=hr;refine⟨_,rfl,?_⟩;rcases k4 with k4|⟨b,o,ds,rfl,j2,j3,j4⟩
   ·exact absurd (by rw[k4];rfl) hc.1
   ·have hz:∀ i,i<List.length (α:=Int) x->w.cell? ⟨b,o+i,none⟩=some (.int .u32 (gr (List.map Int.toNat x) i:Nat)):=b4r j3 j4 hc.2.1;have hl:(List.map Int.toNat x).length=List.length (α:=Int) x:=QS _ _;have hb:b<w.heap.size:=by have:=hz 0 (Nat.pos_of_ne_zero hc.1);exact b0g this
    exact .inr ⟨b,o,c,by rw[hl];rfl,by rw[hl];exact k2,k3,hb,fun i hi=>hz i (by rw[<-hl];exact hi)⟩
  rcases yR h with h|h
  ·exact nO h cs x hr
  obtain⟨q',h1,rfl⟩:=ig.1 h;obtain⟨p,c,k1,k2,k3,k4⟩:=hr;have hl:(List.map q'.f x).length=List.length (α:=a.den) x:=QS q'.f x;refine⟨p,c,?_,?_,k3,?_⟩
  ·show cs=[.slice p (List.map q'.f x).length c];rw[hl];exact k1
  ·show (List.map q'.f x).length<=c;rw[hl];exact k2
  ·rcases k4 with k4|⟨bb,o,ds,j1,j2,j3,j4⟩
   ·left;show List.map q'.f x=[];rw[k4];rfl
   ·exact .inr ⟨bb,o,ds,j1,j2,j3,yG (fun c x hx hp=>ih _ q' h1 c x hx hp) _ _ j4 hc.1⟩
 | arr n a ih =>
  intro b q h cs x hr hc;cases b<;>try (simp[kN,qO] at h;done)
  rename_i m b;simp only[kN] at h;split at h<;>try(cases h;done)
  rename_i e;subst e;rcases yR h with h|h
  ·exact nO h cs x hr
  obtain⟨q',h1,rfl⟩:=ig.1 h;obtain⟨k1,k2⟩:=hr;exact⟨(QS q'.f x).trans k1,yG (fun c x hx hp=>ih b q' h1 c x hx hp) _ _ k2 hc.1⟩
 | ref a ih =>
  intro b q h cs x hr hc;cases b<;>try (simp[kN,qO] at h;done)
  rcases yR h with h|h
  ·exact nO h cs x hr
  obtain⟨q',h1,rfl⟩:=ig.1 h;obtain⟨bb,o,ds,k1,k2,k3,k4⟩:=hr;exact⟨bb,o,ds,k1,k2,k3,ih _ q' h1 ds x k4 hc⟩
 | pair a1 a2 ih1 ih2 =>
  intro b q h cs x hr hc;cases b<;>try (simp[kN,qO] at h;done)
  case lf l =>
   simp only[kN] at h;unfold c0F at h;split at h<;>try(cases h;done)
   simp only[ah] at h;subst h;obtain⟨c1,c2,rfl,k2,c3,c4,rfl,k4,k5⟩:=hr;have k5:c4=[]:=k5;subst k5;have k2:eY w (.agg c1.toArray) x.1:=k2;have k4:eY w (.agg c3.toArray) x.2.1:=k4;obtain⟨p1,p2⟩:=JI hc.1 hc.2.1;obtain⟨s1,e1,r1⟩:=id k2;obtain⟨s2,e2,r2⟩:=id k4;have e1:c1=[.bool (decide ((show Int from x.1)<0)),s1]:=by simpa using e1
   have e2:c3=[.bool (decide ((show Int from x.2.1)<0)),s2]:=by simpa using e2
   subst e1 e2;exact RQ.mk' k2 k4 p1.symm p2.symm
  rename_i b1 b2;rcases yR h with h|h
  ·exact nO h cs x hr
  cases h1:kN a1 b1 with
  | none=>rw[h1] at h;simp[a7b] at h
  | some p1 =>
   cases h2:kN a2 b2 with
   | none=>rw[h1,h2] at h;simp[a7b] at h
   | some p2 =>
    rw[h1,h2] at h;simp only[a7b,ah] at h;subst h;obtain⟨c1,c2,k1,k2,k3⟩:=hr;obtain⟨n1,n2⟩:=dI.1 hc;exact⟨c1,c2,k1,ih1 b1 p1 h1 c1 x.1 k2 n1,ih2 b2 p2 h2 c2 x.2 k3 n2⟩
 | bool=>intro b q h cs x hr hc;exact nO (by simpa only[kN] using h) cs x hr
 | int k=>intro b q h cs x hr hc;exact nO (by simpa only[kN] using h) cs x hr
 | unit=>intro b q h cs x hr hc;exact nO (by simpa only[kN] using h) cs x hr
 | clo f a ih =>
  intro b q h cs x hr hc;cases b<;>try (simp[kN,qO] at h;done)
  rename_i m b;simp only[kN] at h;split at h<;>try(cases h;done)
  rename_i e;subst e;rcases yR h with h|h
  ·exact nO h cs x hr
  obtain⟨q',h1,rfl⟩:=ig.1 h;obtain⟨ds,k1,k2⟩:=hr;exact⟨ds,k1,ih b q' h1 ds x k2 hc⟩
 | nls t ih =>
  intro b q h cs x hr hc;cases b<;>try (exact nO (by simpa only[kN] using h) cs x hr)
  simp only[kN] at h;split at h<;>try(cases h;done)
  rename_i e;subst e;simp only[ah] at h;subst h;rcases hr with⟨rfl,rfl⟩|⟨ys,b,o,c,ds,rfl,rfl,k1,k2,k3⟩
  ·exact⟨none,0,rfl,aj _,by omega,.inl rfl⟩
  ·exact⟨_,c,rfl,k1,k2,k3.imp id fun⟨j1,j2,j3⟩=>⟨b,o,ds,rfl,j1,j2,j3⟩⟩
theorem xH:(a b:Ty)->(q:Coe a b)->kN a b=some q->a.agg=b.agg:=by
 intro a b q h;cases a<;>cases b<;>first|rfl|(simp[kN,qO] at h;done)|skip
 ·rename_i a b;cases a<;>cases b<;>first|rfl|(simp[kN,qO,orC,OM] at h;done)
 ·simp only[kN] at h;unfold b9F at h;split at h<;>first|(cases h;done)|rfl
 ·simp only[kN] at h;unfold c0F at h;split at h<;>first|(cases h;done)|rfl
section
def seen (F:Nat->Prop) (w:World) (t:Ty) (v:Value) (ys:List t.den):Prop:=∃ p cap,v=.slice p ys.length cap/\ys.length<=cap/\cap<=9223372036854775807/\(ys=[]\/∃ b o ds,p=some ⟨b,o,none⟩/\w.rangeAt b o ds/\chunks (rep F w t) ds ys)
def a7B (F:Nat->Prop) (w:World) (v:Value):Part->Prop
 | ⟨.list t,ys⟩=>seen F w t v ys
 | _=>True
def XC (ρ:Nat->Res):K->Option Part
 | .val (.list t) ys=>some ⟨.list t,ys⟩
 | .own r v=>match ρ r with
  | .row _ t xs v'=>if gv v=gv v' then some ⟨.list t,xs⟩ else none
  | .fro t xs v'=>if gv v=gv v' then some ⟨.list t,xs⟩ else none
  | _=>none
 | .mrow r v i=>match ρ r with
  | .mat _ _ t _ xss v'=>if v=v' then some ⟨.list t,List.getD (α:=List t.den) xss i []⟩ else none
  | _=>none
 | _=>none
def a5o (ρ:Nat->Res) (t:Option Ty) (k:K):Option (Part × List (Nat × Res)):=match XC ρ k with
 | some p=>some (p,[])
 | none=>wR ρ t k
inductive lJ {α β:Type} (R:α->β->Prop):List α->List β->Prop
 | nil:lJ R [] []
 | cons {a:α} {b:β} {l:List α} {m:List β} (h:R a b) (k:lJ R l m):lJ R (a::l) (b::m)
def FV (ρ:Nat->Res) (t:Option Ty):List K->Option (List Part × List (Nat × Res))
 | []=>some ([],[])
 | k::ks=>match wR ρ t k with
  | some (p,l)=>(FV (after ρ l) t ks).map fun q=>(p::q.1,l++q.2)
  | none=>none
def mD (t:Ty):List Part->Option (List t.den)
 | []=>some []
 | p::ps=>match gK p.t t p.x,mD t ps with
  | some x,some xs=>some (x::xs)
  | _,_=>none
def idxFrom:Nat->List (Nat × Operand)->Bool
 | _,[]=>true
 | i,(j,_)::l=>j==i&&idxFrom (i+1) l
def sliceB (P:Program) (t:TypeId) (ty:Ty) (len:Nat):Option TypeId:=match P.underlying t with
 | some (.slice e)=>if fitsT P e ty&&decide (len*ty.n<=16777216)&&decide (0<ty.n)&&((P.info? e).bind (·.zero)).isSome then some e else none
 | _=>none
def FN (P:Program) (e:TypeId):Bool:=match P.info? e with
 | some i=>decide (i.bytes<=100000)
 | none=>false
def a2o (P:Program) (T:Told) (t:TypeId):Option Ty:=match P.underlying t with
 | some (.slice e)=>T.el e
 | _=>none
def XD (P:Program) (e:TypeId) (n:Nat):Bool:=match P.info? e with
 | some i=>match i.zero with
  | some z=>z.cells.toList.all dB&&z.cells.size==n
  | none=>false
 | none=>false
def xR (ty:Ty) (xs ys:List ty.den):List ty.den:=xs++ys
def a6p (e:TypeId) (ty:Ty) (r:Nat) (xs ys:List ty.den) (ver:Nat) (l:List (Nat × Res)) (vc:List Cd):MK :=
 some ((xs.length+ys.length<=1000000000:Cd)::vc,.own r (nxf ver),l++[(r,.row e ty (xR ty xs ys) (nxf ver))])
def a5M (ty:Ty):Part->Option (List Cd × List ty.den)
 | ⟨.list t,ys⟩=>match gK (.list t) (.list ty) ys with
  | some zs=>some ([],zs)
  | none=>(kN t ty).map fun q=>((b2k q).c ys,(b2k q).f ys)
 | _=>none
def CW (P:Program) (T:Told) (ρ:Nat->Res) (k:Operand->K) (d:Option Nat):Op->MK
 | .buildSlice t len parts=>if parts.size=len&&idxFrom 0 parts.toList then
   (match len,d with
   | 0,some r=>match a2o P T t with
    | some ty=>match sliceB P t ty 0 with
     | some e=>if (ρ r).isNone&&ty.still then some ([],.own r 1,[(r,.row e ty [] 1)]) else none
     | none=>none
    | none=>none
   | n+1,_=>match FV ρ (a2o P T t) (parts.toList.map fun q=>k q.2) with
    | some (p::ps,l)=>match mD p.t ps,sliceB P t p.t (n+1) with
     | some xs,some _=>some ([],.val (.list p.t) (p.x::xs),l)
     | _,_=>none
    | _=>none
   | _,_=>none) else none
 | .call { callee:=.builtin .append,args:=xs,argTypes:=ts }=>match xs.toList,ts.toList with
  | [s,x],[t,t']=>if t=t' then (match k s,d with
   | .own r v,_=>match ρ r with
    | .row e ty xs v'=>match a5o ρ (some (.list ty)) (k x) with
     | some (p,l)=>match a5M ty p with
      | some (vc,ys)=>if gv v==gv v'&&(sliceB P t ty 0==some e)&&FN P e&&XD P e ty.n&&l.all (fun q=>q.1 != r) then a6p e ty r xs ys v' l vc else none
      | none=>none
     | none=>none
    | _=>none
   | .nil,some r=>match a5o ρ none (k x) with
    | some (⟨.list ty,ys⟩,l)=>match sliceB P t ty 0 with
     | some e=>if (ρ r).isNone&&ty.still&&FN P e&&XD P e ty.n&&l.all (fun q=>q.1 != r) then a6p e ty r [] ys 0 l [] else none
     | none=>none
    | _=>none
   | _,_=>none) else none
  | _,_=>none
 | _=>none
section
variable {P:Program} {E:Env} {ρ:Nat->Res} {W w:World}
theorem uT {F:Nat->Prop} {t:Ty} {v:Value} {ys:List t.den} (h:jU F w (.list t) v ys):seen F w t v ys:=by obtain⟨cs,rfl,p,c,h1,h2,h3,h4⟩:=h;exact⟨p,c,by rw[h1];rfl,h2,h3,h4.imp id (fun⟨b,o,ds,k1,_,k3,k4⟩=>⟨b,o,ds,k1,k3,k4⟩)⟩
theorem ZM {F:Nat->Prop} {e:TypeId} {t:Ty} {v:Value} {xs:List t.den} {cs:List Value} (h:w.ownsRow 0 e t.n v xs.length cs) (hc:chunks (rep F w t) cs xs):seen F w t v xs:=by
 obtain⟨j1,j2⟩:=h;rcases j2 with⟨j2,j3⟩|⟨g,cap,cur,e1,e2,e3,e4,e5,e6,e7⟩
 ·have:xs=[]:=ng j3;subst this;exact⟨none,0,j2,by simp,by omega,.inl rfl⟩
 ·refine⟨some ⟨g,0,none⟩,cap,e1,e4,by simp only[maxLen] at e5;omega,.inr ⟨g,0,cs,rfl,fun j u hu=>?_,hc⟩⟩;rw[qg,yg w g j cur _ _ e3];rw[<-e7] at hu;have hlt:j<xs.length*t.n:=by have:=(jy.1 hu).1;rw[jk] at this;omega
  rw[List.getElem?_take,dn hlt] at hu;simpa using hu
theorem a5v {F:Nat->Prop} {p:Part} {v:Value} (h:jU F w p.t v p.x):a7B F w v p:=by obtain⟨t,x⟩:=p;cases t<;>first|trivial|exact uT h
theorem b7r {k:K} {p:Part} {v:Value} (h:XC ρ k=some p) (hM:Mem E ρ W w) (hw:k.wf ρ) (hk:k.holds E ρ w v):a7B (fz w E) w v p:=by
 cases k<;>try (simp[XC] at h;done)
 case val t x =>
  cases t<;>simp only[XC,ah] at h<;>try(cases h;done)
  subst h;exact uT hk
 case own r ver =>
  simp only[XC] at h;have h1:=hM.res r;split at h<;>try(cases h;done)
  all_goals
   rename_i hr;split at h<;>try(cases h;done)
   rename_i hv0;simp only[ah] at h;subst h;have hv:v=E.sl r:=hk (by rw[hr];exact hv0.symm);rw[hr] at h1;rw[hv]
  ·obtain⟨k1,k2,cs,k3,k4,k5⟩:=h1;exact ZM k3 k4
  ·exact uT h1.2
 case mrow r ver i =>
  simp only[XC] at h;have h1:=hM.res r;split at h<;>try(cases h;done)
  rename_i hr;split at h<;>try(cases h;done)
  rename_i hv;subst hv;simp only[ah] at h;subst h;have hv:v=E.inn r i:=hk (by rw[hr];rfl);have hi:=hw.2 (by rw[hr];rfl);rw[hr] at hi h1;obtain⟨cs,q1,q2,q3⟩:=h1.2.2.2.2.2 i _ (getD_at _ [] _ hi);rw[hv];exact ZM q1 q2
theorem a7H {k:K} {t:Option Ty} {p:Part} {l:List (Nat × Res)} {v:Value} (h:a5o ρ t k=some (p,l)) (hM:Mem E ρ W w) (hw:k.wf ρ) (hk:k.holds E ρ w v) :
  ∃ E',Mem E' (after ρ l) W w/\Ext E ρ w E' (after ρ l) w/\a7B (fz w E') w v p:=by
 unfold a5o at h;split at h
 ·rename_i p' hp;simp only[ah,ak] at h;obtain⟨rfl,rfl⟩:=h;exact⟨E,hM,Ext.refl _ _ _,b7r hp hM hw hk⟩
 ·obtain⟨E',h1,h2,h3⟩:=oC h hM hw hk;exact⟨E',h1,h2,a5v h3⟩
theorem b0e {F:Nat->Prop} {v:Value} {p:Part} {ty:Ty} {vc:List Cd} {ys:List ty.den} (h:a5M ty p=some (vc,ys)) (hv:dH vc) (hs:a7B F w v p):seen F w ty v ys:=by
 obtain⟨t,x⟩:=p;cases t<;>try (simp[a5M] at h;done)
 rename_i t;simp only[a5M] at h;split at h
 ·rename_i zs hc;simp only[ah,ak] at h;obtain⟨rfl,rfl⟩:=h;obtain⟨e9,rfl⟩:=dO hc;cases e9;exact hs
 ·obtain⟨q,hq,h⟩:=ig.1 h;cases h;obtain⟨p,c,k1,k2,k3,k4⟩:=hs;have hl:(List.map q.f x).length=List.length (α:=t.den) x:=QS q.f x;refine⟨p,c,?_,?_,k3,?_⟩
  ·show v=.slice p (List.map q.f x).length c;rw[hl];exact k1
  ·show (List.map q.f x).length<=c;rw[hl];exact k2
  ·rcases k4 with k4|⟨bb,o,ds,j1,j2,j3⟩
   ·left;show List.map q.f x=[];rw[k4];rfl
   ·exact .inr ⟨bb,o,ds,j1,j2,yG (fun c x hx hp=>tX _ _ q hq c x hx hp) _ _ j3 hv.1⟩
theorem a1Z:∀ {ks:List K} {t:Option Ty} {ρ:Nat->Res} {E:Env} {ps:List Part} {l:List (Nat × Res)} {vs:List Value},FV ρ t ks=some (ps,l)->Mem E ρ W w->(∀ k ∈ ks,k.wf ρ)->lJ (fun k v=>k.holds E ρ w v) ks vs ->
  ∃ E',Mem E' (after ρ l) W w/\Ext E ρ w E' (after ρ l) w/\lJ (fun(p:Part) v=>jU (fz w E') w p.t v p.x) ps vs
 | [],t,ρ,E,ps,l,vs,h,hM,hw,hk=>by simp only[FV,ah,ak] at h;obtain⟨rfl,rfl⟩:=h;cases hk;exact⟨E,hM,Ext.refl _ _ _,.nil⟩
 | k::ks,t,ρ,E,ps,l,vs,h,hM,hw,hk=>by
  simp only[FV] at h;split at h<;>try(cases h;done)
  rename_i p l1 h1;simp only[ig,ak] at h;obtain⟨⟨ps2,l2⟩,h2,rfl,rfl⟩:=h;cases hk;rename_i v vs hv hvs;obtain⟨E1,m1,m2,m3⟩:=oC h1 hM (hw k (je ..)) hv;have b9X:lJ (fun k v=>k.holds E1 (after ρ l1) w v) ks vs:=by
   have hw':∀ k ∈ ks,k.wf ρ:=fun k hk=>hw k (jd _ hk);clear h2 hw
   induction hvs with
   | nil=>exact .nil
   | cons a b ih=>exact .cons (m2.holds _ _ (hw' _ (je ..)) a) (ih (fun k hk=>hw' k (jd _ hk)))
  obtain⟨E2,n1,n2,n3⟩:=a1Z h2 m1 (fun k hk=>m2.wf k (hw k (jd _ hk))) b9X;exact⟨E2,by rw[gG];exact n1,by rw[gG];exact m2.trans n2,.cons (fU n2.fz n2.stay m3) n3⟩
theorem a2C (c:List Value):∀ (o j:Nat) (a:Array Value),o+j+c.length<=a.size->((c.zipIdx j).foldl (fun cs (p:Value × Nat)=>cs.setIfInBounds (o+p.2) p.1) a).toList=a.toList.take (o+j)++c++a.toList.drop (o+j+c.length):=by
 induction c with
 | nil=>intro o j a h;simp
 | cons v c ih =>
  intro o j a h;simp only[List.length_cons] at h;rw[List.zipIdx_cons,List.foldl_cons,ih o (j+1) _ (by simp;omega)];have ha:a.toList.length=a.size:=Array.length_toList;have la:(a.toList.take (o+j)).length=o+j:=by rw[jk];omega
  have e9:a.toList.set (o+j) v=a.toList.take (o+j)++([v]++a.toList.drop (o+j+1)):=by rw[List.set_eq_take_append_cons_drop,dn (by omega)];rfl
  have e1:(a.toList.set (o+j) v).take (o+j+1)=a.toList.take (o+j)++[v]:=by rw[e9,List.take_append,la,jf (by omega),Ee];rfl
  have e2:(a.toList.set (o+j) v).drop (o+j+1+c.length)=a.toList.drop (o+j+(c.length+1)):=by rw[List.drop_set_of_lt (by omega)];congr 1;omega
  simp only[Array.toList_setIfInBounds,List.length_cons];rw[show o+(j+1)=o+j+1 by omega,e1,e2];simp
theorem a2y {n:Nat}:∀ (vs:List Value) (css:List (List Value)) (i:Nat) (a:Array Value),lJ (fun v cs=>v.cells=List.toArray cs/\cs.length=n) vs css->a.size=(i+vs.length)*n ->
  ∃ a',Instr.fill (fun i=>some (i*n,n)) a ((vs.zipIdx i).map fun p=>(p.2,p.1))=some a'/\a'.toList=a.toList.take (i*n)++css.flatten
 | [],css,i,a,h,hs=>by cases h;refine⟨a,rfl,?_⟩;rw[List.flatten_nil,Aj,jf (by simp at hs ⊢;omega)]
 | v::vs,css,i,a,h,hs=>by
  cases h;rename_i cs css h1 h2;obtain⟨h3,h4⟩:=h1;have hs2:i*n+n+vs.length*n=a.size:=by rw[hs,List.length_cons,Aq,Aa];omega
  have hz:v.cells.size=n:=by rw[h3];simpa using h4
  have hfold:=a2C cs (i*n) 0 a (by omega);rw[Nat.add_zero,h4] at hfold;have key:(v.cells.zipIdx.foldl (fun cs (p:Value × Nat)=>cs.setIfInBounds (i*n+p.2) p.1) a)=((cs.zipIdx 0).foldl (fun cs (p:Value × Nat)=>cs.setIfInBounds (i*n+p.2) p.1) a):=by rw[h3,<-Array.foldl_toList];congr 1;simp
  obtain⟨a',k1,k2⟩:=a2y (n:=n) vs css (i+1) ((cs.zipIdx 0).foldl (fun cs (p:Value × Nat)=>cs.setIfInBounds (i*n+p.2) p.1) a) h2 (by
   rw[<-Array.length_toList,hfold];have:a.toList.length=a.size:=Array.length_toList;simp only[dh,jk,Bc,h4];rw[Aq,Aa];omega)
  refine⟨a',?_,?_⟩
  ·rw[List.zipIdx_cons,yw,Instr.fill];simp only[hz,ne_eq,not_true_eq_false,false_or];have hc9:¬ (i*n+n > a.size):=by omega
   rw[bn (by simp only[iy hc9];decide)];rw[show (v.cells.zipIdx.foldl (fun cs x=>match x with|(c,j)=>cs.setIfInBounds (i*n+j) c) a)=_ from key];exact k1
  ·rw[k2,hfold,Aa];have la:(a.toList.take (i*n)).length=i*n:=by have:a.toList.length=a.size:=Array.length_toList;rw[jk];omega
   rw[List.take_append_of_le_length (by simp only[dh,la,h4];omega),jf (by simp only[dh,la,h4];omega)];simp
theorem ZW {F:Nat->Prop} {t:Ty}:∀ {ps:List Part} {xs:List t.den} {vs:List Value},mD t ps=some xs->lJ (fun(p:Part) v=>jU F w p.t v p.x) ps vs->lJ (fun v cs=>v=t.toV cs) vs (vs.map fun v=>v.cells.toList)/\chunks (rep F w t) (vs.map fun v=>v.cells.toList).flatten xs/\vs.length=ps.length
 | [],xs,vs,h,hv=>by simp only[mD,ah] at h;subst h;cases hv;exact⟨.nil,rfl,rfl⟩
 | p::ps,xs,vs,h,hv=>by
  simp only[mD] at h;split at h<;>try(cases h;done)
  rename_i x xs' h1 h2;simp only[ah] at h;subst h;cases hv;rename_i v vs h3 h4;obtain⟨k1,k2,k3⟩:=ZW h2 h4;obtain⟨pt,px⟩:=p;obtain⟨e,rfl⟩:=dO h1;simp only at e;subst e;obtain⟨cs,rfl,hr⟩:=h3;have hc:(pt.toV cs).cells.toList=cs:=by rw[pF pt cs _ hr]
  refine⟨.cons (by show pt.toV cs=pt.toV (pt.toV cs).cells.toList;rw[hc]) k1,?_,by simp[k3]⟩;rw[yw,List.flatten_cons,hc];exact⟨cs,_,rfl,hr,k2⟩
theorem SA {F:Nat->Prop} {t:Ty}:∀ {ps:List Part} {xs:List t.den} {vs:List Value},mD t ps=some xs->lJ (fun(p:Part) v=>jU F w p.t v p.x) ps vs->lJ (fun v cs=>v.cells=List.toArray cs/\cs.length=t.n) vs (vs.map fun v=>v.cells.toList)
 | [],xs,vs,h,hv=>by cases hv;exact .nil
 | p::ps,xs,vs,h,hv=>by
  simp only[mD] at h;split at h<;>try(cases h;done)
  rename_i x xs' h1 h2;cases hv;rename_i v vs h3 h4;have ih:=SA h2 h4;obtain⟨pt,px⟩:=p;obtain⟨e,_⟩:=dO h1;simp only at e;subst e;obtain⟨cs,rfl,hr⟩:=h3;exact .cons ⟨by simp,by show (pt.toV cs).cells.toList.length=_;rw[pF pt cs _ hr];simpa using dL pt _ _ hr⟩ ih
theorem TW (ev:Operand->Value):∀ (l:List (Nat × Operand)) (i:Nat),idxFrom i l=true->l.map (fun q=>(q.1,ev q.2))=((l.map fun q=>ev q.2).zipIdx i).map fun p=>(p.2,p.1)
 | [],_,_=>rfl
 | (j,x)::l,i,h=>by simp only[idxFrom,ay,jo] at h;obtain⟨rfl,h2⟩:=h;rw[yw,yw,List.zipIdx_cons,yw,TW ev l _ h2]
theorem jS {t:TypeId} {ty:Ty} {n:Nat} {e:TypeId} (h:sliceB P t ty n=some e):P.underlying t=some (.slice e)/\fitsT P e ty=true/\n*ty.n<=16777216/\0<ty.n/\∃ i z,P.info? e=some i/\i.zero=some z/\i.size=ty.n:=by
 unfold sliceB at h;split at h<;>try(cases h;done)
 rename_i e' hu;split at h<;>try(cases h;done)
 rename_i hb;simp only[ah] at h;subst h;simp only[ay,jc] at hb;obtain⟨⟨⟨h1,h2⟩,h3⟩,h4⟩:=hb;obtain⟨⟨i,h5,h6⟩,_⟩:=fM h1;rw[h5] at h4;simp only[Option.bind_some,Cc] at h4;obtain⟨z,hz⟩:=h4;exact⟨hu,h1,h2,h3,i,z,h5,hz,h6⟩
theorem run_buildSlice {t e:TypeId} {ty:Ty} {xs:List ty.den} {vs:List Value} {ps:List Part} {n:Nat} (hb:sliceB P t ty n=some e) (hn:vs.length=n) (hv:lJ (fun v cs=>v.cells=List.toArray cs/\cs.length=ty.n) vs (vs.map fun v=>v.cells.toList)) :
  (Instr.buildSlice t n ((vs.zipIdx 0).map fun p=>(p.2,p.1)).toArray).run P w=.ok (.slice (some ⟨w.heap.size,0,none⟩) n n) (w.alloc (.cells ((vs.map fun v=>v.cells.toList).flatten).toArray e)):=by
 obtain⟨h1,h2,h3,h4,i,z,h5,h6,h7⟩:=jS hb;obtain⟨a',k1,k2⟩:=a2y (n:=ty.n) vs _ 0 ((Array.range (n*ty.n)).map (fun q=>(if n*ty.n=0 then #[] else z.cells)[q%(if n*ty.n=0 then #[] else z.cells).size]!)) hv (by simp[hn]);have k3:a'=((vs.map fun v=>v.cells.toList).flatten).toArray:=by apply Dw;rw[k2];simp
 subst k3;have hle:¬ (2 ^ 24<n*ty.n):=by omega
 by_cases hz:n*ty.n=0
 ·have hn0:n=0:=by
   rcases Nat.mul_eq_zero.1 hz with h|h
   ·exact h
   ·omega
  subst hn0;have hvs:vs=[]:=ng hn;subst hvs;simp[Instr.buildSlice,ku h1 w,eu,run_sizeOf h5,h7,Instr.fill,newRow];have hr0:∀ f:Nat->Value,Array.map f (Array.range 0)=#[]:=fun f=>by apply Dw;simp
  rw[hr0]
 ·rw[bn hz] at k1;simp only[Instr.buildSlice,ku h1 w,eu,Result.andThen_ok,run_sizeOf h5,h7];simp[hle,hz,zeroValue,typeInfo,h5,h6,k1,newRow,eu]
theorem a5D {k:Operand->K} {ev:Operand->Value} {R:K->Value->Prop} (hk:∀ x,R (k x) (ev x)):∀ (l:List (Nat × Operand)),lJ R (l.map fun q=>k q.2) (l.map fun q=>ev q.2)
 | []=>.nil
 | q::l=>.cons (hk q.2) (a5D hk l)
theorem a0H {F:Nat->Prop} {t:Ty} (hs:t.still=true) {cs:List Value} {xs:List t.den} (h:chunks (rep F w t) cs xs):∀ u ∈ cs,dB u=true:=DY (fun c y=>yV t hs c y) _ _ h
theorem QM {e t:TypeId} {ty:Ty} {n0:Nat} {xs ys:List ty.den} {r:Nat} {v0:Nat} {s x:Value} {cs:List Value} (hM:Mem E ρ W w)
  (hb:sliceB P t ty n0=some e) (hfew:FN P e=true) (hz:XD P e ty.n=true) (hst:ty.still=true)
  (hblk:E.blk r=s.ownBlock) (hown:w.ownsRow 0 e ty.n s xs.length cs) (hch:chunks (rep (fz w E) w ty) cs xs) (hca:CAv dB w s) (hnn:nnS v0 s)
  (hx:seen (fz w E) w ty x ys) (hlen:xs.length+ys.length<=1000000000) (hr:ρ r=.none\/∃ e' t' xs' v',ρ r=.row e' t' xs' v'/\v'<=v0/\gv v'<gv v0) (T0:TypeId) :
  ∃ s' w' E',(Builtin.append_ #[t,t] T0 #[s,x]).run P w=.ok s' w'/\Mem E' (bJ ρ r (.row e ty (xR ty xs ys) v0)) W w'/\Ext E ρ w E' (bJ ρ r (.row e ty (xR ty xs ys) v0)) w'/\s'=E'.sl r:=by
 obtain⟨h1,h2,h3,h4,i,z,h5,h6,h7⟩:=jS hb;have hzk:(∀ u ∈ z.cells.toList,dB u=true)/\z.cells.size=ty.n:=by unfold XD at hz;rw[h5] at hz;simp only[h6,ay,zh,jo] at hz;exact hz
 have a2L:i.bytes<=100000:=by unfold FN at hfew;rw[h5] at hfew;simpa using hfew
 obtain⟨p,cap,hvx,hx2,hx3,hx4⟩:=hx;have hr1:(ρ r).oV->Res.oV (.row e ty (xR ty xs ys) v0)/\s.ownBlock=E.blk r:=fun h=>by
  rcases hr with hr|⟨e',t',xs',v',hr,hlt⟩
  ·rw[hr] at h;exact h.elim
  ·rw[hr] at h;exact h.elim
 have hr4:(ρ r).oV->False:=fun h=>by
  rcases hr with hr|⟨e',t',xs',v',hr,hlt⟩
  ·rw[hr] at h;exact h.elim
  ·rw[hr] at h;exact h.elim
 have hr2:∀ v,Res.dW v (ρ r)->Res.dW v (.row e ty (xR ty xs ys) v0):=fun v h=>by
  rcases hr with hr|⟨e',t',xs',v',hr,hlt⟩
  ·rw[hr] at h;exact h.elim
  ·rw[hr] at h;have h:v<=v':=h;show v<=v0;omega
 have hkg:¬ (ρ r).FQ:=fun h=>by
  rcases hr with hr|⟨e',t',xs',v',hr,hlt⟩
  ·rw[hr] at h;exact h.elim
  ·rw[hr] at h;exact h.elim
 have hr3:∀ (s':Value) v,Res.dW v (ρ r)->Res.isRow v (.row e ty (xR ty xs ys) v0)->Res.isRow v (ρ r)/\s'=E.sl r/\(Res.row e ty (xR ty xs ys) v0).esz=(ρ r).esz:=fun s' v h h'=>by
  rcases hr with hr|⟨e',t',xs',v',hr,hlt⟩
  ·rw[hr] at h;exact h.elim
  ·rw[hr] at h;have h:v<=v':=h;have h':gv v0=gv v:=h';have:=JW h;omega
 by_cases hy:ys=[]
 ·subst hy;refine⟨s,w,E.put r s.ownBlock s,?_,?_⟩
  ·rw[hvx];have hsl:∃ sp sc,s=.slice sp xs.length sc/\xs.length<=sc:=by
    rcases hown.2 with⟨rfl,hn⟩|⟨g,cap',cur,rfl,_,_,k4,_⟩
    ·exact⟨none,0,by rw[hn],by omega⟩
    ·exact⟨_,_,rfl,k4⟩
   obtain⟨sp,sc,rfl,hle⟩:=hsl;cases p with
   | none=>cases sp<;>simp[Builtin.append_,ku h1 w,sizeOf,typeInfo,h5,Builtin.lenOf,hle,Builtin.firstCells,eu,storeCells]
   | some a=>cases sp<;>simp[Builtin.append_,ku h1 w,sizeOf,typeInfo,h5,Builtin.lenOf,hle,Builtin.firstCells,loadCells,loadCellsFrom,eu,storeCells]
  ·have hb9:s.ownBlock=none\/s.ownBlock=E.blk r\/s.ownBlock=some w.heap.size:=.inr (.inl hblk.symm);have hE9:=AU (ρ:=ρ) (w':=w) (E:=E) (r:=r) (s:=s) (aj _) hb9;obtain⟨m1,m2⟩:=hM.turn (w':=w) r ⟨rfl,rfl,rfl,aj _,fun _ _ _=>rfl,fun _ _ _ h=>h⟩ s.ownBlock s (.row e ty (xR ty xs []) v0)
    ⟨by show bJ E.blk r _ r=bK (bJ E.sl r s r);rw[aF,aF,mM],hst,cs,by show w.ownsRow _ _ _ (bJ E.sl r s r) _ _;rw[aF,xR,Aj];exact hown,by rw[xR,Aj];exact aZ (fun c y=>bY hE9 (jK.refl _ _) ty c y) _ _ hch,by show CAv _ _ (bJ E.sl r s r)/\nnS _ (bJ E.sl r s r);rw[aF];exact⟨hca,hnn⟩⟩
    hb9 rfl (fun k e=>by cases e) hkg hr1 hr2 (hr3 s) (fun v h=>h.elim)
   exact⟨m1,m2,by show _=bJ E.sl r s r;rw[aF]⟩
 ·have hlp:0<ys.length:=yc.2 hy;rcases hx4 with hx4|⟨b,o,ds,rfl,hrg,hds⟩
  ·exact absurd hx4 hy
  have hdl:ds.length=ys.length*ty.n:=oL (fun c y=>dL ty c y) _ _ hds;have hok:=a0H hst hds;have hbytes:(xs.length+ys.length)*i.bytes<=140737488355328:=by have h9:(xs.length+ys.length)*i.bytes<=1000000000*100000:=uy hlen a2L;omega
  obtain⟨g,cap',w',hrun,k1,k2,k3,k4⟩:=GI (P:=P) (p:=dB) w 0 t T0 e i z ty.n i.bytes h1 h5 h6 h7 rfl hzk.2 h4 hzk.1 s xs.length cs hown hca ⟨b,o,none⟩ ys.length cap ds hdl (fun j u hu=>by rw[Ba];exact hrg j u hu) (fun u hu=>by
    have:=hok u hu;simp only[dB,ay] at this;exact this.1) hok hlp (by simp only[maxLen];omega) hbytes (ru _)
  have hg:lH E w w' (fun q=>q=r):=⟨k2.os,k2.tape,k2.output,k2.size,fun q hq hne=>k2.block q hq (fun e9=>hne r 0 rfl (by show E.blk r=some q;rw[hblk,<-e9])),fun q o' n hc=>by
   by_cases e9:s.ownBlock=some q
   ·have:=hca q e9 _ _ hc;simp[dB,fF] at this
   ·rw[<-hc];exact Dz (w:=w) (k2.block q (cell_lt hc) (fun e8=>e9 e8.symm))⟩
  have hb9:some g=none\/some g=E.blk r\/some g=some w.heap.size:=by
   rcases k4 with k4|k4
   ·exact .inr (.inl (by rw[<-k4,hblk]))
   ·exact .inr (.inr (by rw[k4]))
  have hF9:=AU (ρ:=ρ) (w':=w') (E:=E) (r:=r) (s:=.slice (some ⟨g,0,none⟩) (xs.length+ys.length) cap') hg.size hb9;obtain⟨m1,m2⟩:=hM.turn (w':=w') r hg (some g) (.slice (some ⟨g,0,none⟩) (xs.length+ys.length) cap') (.row e ty (xR ty xs ys) v0)
   ⟨by show bJ E.blk r _ r=bK (bJ E.sl r _ r);rw[aF,aF];rfl,hst,cs++ds,by show w'.ownsRow _ _ _ (bJ E.sl r _ r) _ _;rw[aF,xR,dh];exact k1,qQ (aZ (fun c y=>bY hF9 hg.stay ty c y) _ _ hch) (aZ (fun c y=>bY hF9 hg.stay ty c y) _ _ hds),by
    show CAv _ _ (bJ E.sl r _ r)/\nnS _ (bJ E.sl r _ r);rw[aF];refine⟨?_,fun _ h=>by cases h⟩;intro g' hg';cases hg';exact k3⟩
   hb9 rfl (fun k e=>by cases e) hkg (fun h=>((hr4 h).elim)) hr2 (hr3 _) (fun v h=>h.elim)
  exact⟨_,w',_,by rw[hvx];exact hrun,m1,m2,by show _=bJ E.sl r _ r;rw[aF]⟩
end
end
end Go.Proofs.YtbkocjmmbkifjaaGreat
