/-
  Lemmas for the theorem vnulls_holds, part 14 of 36.
-/
import Derived.Test.YtgplhbhfdgempaaGreatNu13
namespace Go.Proofs.YtgplhbhfdgempaaGreat
open Go Go.RowKit
section
set_option linter.unusedSimpArgs false
set_option linter.unusedVariables false
section
variable {P:Program} {E:Env} {ρ:Nat->Res} {W w:World}
theorem qI (b:Nat):∀ (vs:List Value) (o:Nat) (w:World),(w.setCells b o vs).heap.size=w.heap.size/\(w.setCells b o vs).os=w.os/\(w.setCells b o vs).tape=w.tape/\(w.setCells b o vs).output=w.output/\∀ q,q≠b->(w.setCells b o vs).heap[q]?=w.heap[q]?:=by
 intro vs
 induction vs with
 | nil=>intro o w;exact⟨rfl,rfl,rfl,rfl,fun _ _=>rfl⟩
 | cons v vs ih =>
  intro o w
  obtain⟨h1,h2,h3,h4,h5⟩:=ih (o+1) (w.setCell ⟨b,o,none⟩ v)
  exact⟨h1.trans (by simp[World.setCell]),h2,h3,h4,fun q hq=>(h5 q hq).trans (Below.heap_setCell _ _ _ _ hq)⟩
theorem zM {S:Nat->Prop} {r j b:Nat} {cs vs:List Value} {e:TypeId} {o:Nat} (hS:S r) (hr:E.has r j b) (hb:w.heap[b]?=some (.cells cs.toArray e (0,0))) (hn:∀ v ∈ cs,bF v=true):kQ E w (w.setCells b o vs) S:=by
 obtain⟨h1,h2,h3,h4,h5⟩:=qI b vs o w
 refine⟨h2,h3,h4,by omega,fun q hq hne=>h5 q (fun e=>hne r j hS (by rw[e];exact hr)),fun q i n hc=>?_⟩
 by_cases e9:q=b
 ·subst e9
  rw[cell_of_row _ _ _ _ _ _ hb] at hc
  have:=hn (.int .u32 n) (by simp at hc;exact List.mem_of_getElem? hc)
  simp[bF] at this
 ·rw[<-hc]
  exact World.cell?_of_block (w:=w) (h5 q e9)
theorem owns_block {e:TypeId} {n m:Nat} {v:Value} {cs:List Value} (h:w.ownsRow 0 e n v m cs) {g:Nat} (hg:bV v=some g):∃ cap rest,v=.slice (some ⟨g,0,none⟩) m cap/\m<=cap/\cap<=maxLen/\w.heap[g]?=some (.cells (cs++rest).toArray e (0,0))/\(cs++rest).length=cap*n:=by
 rcases h.2 with⟨rfl,_⟩|⟨g',cap,cur,rfl,_,e3,e4,e5,e6,e7⟩
 ·cases hg
 ·cases hg
  refine⟨cap,cur.toList.drop (m*n),rfl,e4,e5,?_,?_⟩
  ·rw[<-e7,List.take_append_drop,Array.toArray_toList];exact e3
  ·rw[<-e7,List.take_append_drop,Array.length_toList];exact e6
theorem IJ {e:TypeId} {n m g i:Nat} {v:Value} {cs ds:List Value} (h:w.ownsRow 0 e n v m cs) (hg:bV v=some g) (hi:i<m) (hl:ds.length=n) :
  (w.setCells g (i*n) ds).ownsRow 0 e n v m (cs.take (i*n)++ds++cs.drop (i*n+n)):=by
 obtain⟨cap,rest,rfl,h1,h2,h3,h4⟩:=owns_block h hg
 have hlen:=h.1
 have hb:i*n+n<=m*n:=by rw[<-Nat.succ_mul];exact Nat.mul_le_mul_right _ hi
 have hh:=kV g ds (i*n) w (cs++rest) e h3 (by rw[List.length_append];omega)
 have e1:(cs++rest).take (i*n)++ds++(cs++rest).drop (i*n+ds.length)=(cs.take (i*n)++ds++cs.drop (i*n+n))++rest:=by
  rw[hl,List.take_append_of_le_length (by omega),List.drop_append_of_le_length (by omega)]
  simp[List.append_assoc]
 rw[e1] at hh
 have hln:(cs.take (i*n)++ds++cs.drop (i*n+n)).length=m*n:=by
  simp only[List.length_append,List.length_take,List.length_drop];omega
 refine⟨hln,.inr ⟨g,cap,_,rfl,Nat.zero_le _,hh,h1,h2,?_,?_⟩⟩
 ·rw[List.size_toArray,List.length_append,hln,<-h4,List.length_append];omega
 ·show List.take (m*n) _=_
  rw[<-hln]
  exact List.take_left
theorem EC {α:Type} {R:List Value->α->Prop} {n:Nat} (h:∀ c y,R c y->c.length=n) {ds:List Value} {x:α} (hd:R ds x):∀ (xs:List α) (cs:List Value) (i:Nat),chunks R cs xs->i<xs.length->chunks R (cs.take (i*n)++ds++cs.drop (i*n+n)) (xs.set i x)
 | [],cs,i,_,hi=>by simp at hi
 | y::ys,_,0,⟨c1,c2,h1,h2,h3⟩,_=>by
  rw[h1,Nat.zero_mul,List.take_zero,Nat.zero_add,<-h _ _ h2,List.drop_left]
  exact⟨ds,c2,rfl,hd,h3⟩
 | y::ys,_,i+1,⟨c1,c2,h1,h2,h3⟩,hi=>by
  have ih:=EC h hd ys c2 i h3 (by simpa using hi)
  refine⟨c1,_,?_,h2,ih⟩
  have hl:=h _ _ h2
  rw[h1,show (i+1)*n=c1.length+i*n by rw[Nat.succ_mul,hl,Nat.add_comm],List.take_length_add_append,Nat.add_assoc,<-List.drop_drop,List.drop_left]
  simp[List.append_assoc]
theorem XZ {g o:Nat} {v:Value} {cs ds rest:List Value} {e:TypeId} (h:CAv dJ w v) (hg:bV v=some g) (hb:w.heap[g]?=some (.cells (cs++rest).toArray e (0,0))) (hl:o+ds.length<=(cs++rest).length) (hd:∀ u ∈ ds,dJ u=true):CAv dJ (w.setCells g o ds) v:=by
 intro g' hg'
 have e9:g'=g:=by
  have:=(pF v).symm.trans hg
  rw[hg'] at this
  cases this;rfl
 subst e9
 have hold:=CA.cells hb (h g' hg')
 refine CA.of_cells (kV g' ds o w _ e hb hl) (fun u hu=>?_)
 simp only[List.mem_append] at hu
 rcases hu with(hu|hu)|hu
 ·exact hold u (List.mem_of_mem_take hu)
 ·exact hd u hu
 ·exact hold u (List.mem_of_mem_drop hu)
theorem CS {e:TypeId} {n m g i:Nat} {v:Value} {cs:List Value} (h:w.ownsRow 0 e n v m cs) (hg:bV v=some g) (hi:i<m):w.there g (i*n) n:=by
 obtain⟨cap,rest,rfl,h1,h2,h3,h4⟩:=owns_block h hg
 have hlen:=h.1
 have hb:i*n+n<=m*n:=by rw[<-Nat.succ_mul];exact Nat.mul_le_mul_right _ hi
 intro j hj
 refine⟨?_,by simp[World.frozen?,h3]⟩
 rw[cell_of_row _ _ _ _ _ _ h3]
 have:i*n+j<(cs++rest).length:=by rw[List.length_append];omega
 simp only[List.getElem?_toArray]
 rw[List.getElem?_eq_getElem this];rfl
theorem xH {e:TypeId} {g:Nat} {v:Value} {cs rest:List Value} (h:CAv dJ w v) (hg:bV v=some g) (hb:w.heap[g]?=some (.cells (cs++rest).toArray e (0,0))):∀ u ∈ cs++rest,bF u=true:=fun u hu=>by
 have:=CA.cells hb (h g ((pF v).symm.trans hg)) u (by simpa using hu)
 simp only[dJ,Bool.and_eq_true] at this
 exact this.2
theorem b2t {r v i g:Nat} {e:TypeId} {ty:Ty} {xs:List ty.den} {x:ty.den} {ds:List Value} (hM:Mem E ρ W w) (hr:ρ r=.row e ty xs v) (hg:bV (E.sl r)=some g) (hi:i<xs.length) (hd:rep (fz w E) w ty ds x) :
  Mem (E.put r (E.blk r) (E.sl r)) (bW ρ r (.row e ty (xs.set i x) v)) W (w.setCells g (i*ty.n) ds)/\Ext E ρ w (E.put r (E.blk r) (E.sl r)) (bW ρ r (.row e ty (xs.set i x) v)) (w.setCells g (i*ty.n) ds)/\w.there g (i*ty.n) ds.length/\ty.still=true:=by
 have h1:=hM.res r
 rw[hr] at h1
 obtain⟨k1,k2,cs,k3,k4,k5⟩:=h1
 have hl:=dZ _ _ _ hd
 obtain⟨cap,rest,e1,e2,e3,e4,e5⟩:=owns_block k3 hg
 have hgo:=zM (S:=fun q=>q=r) (vs:=ds) (o:=i*ty.n) rfl (show E.has r 0 g from k1.trans hg) e4 (xH k5 hg e4)
 have hb9:E.blk r=none\/E.blk r=E.blk r\/E.blk r=some w.heap.size:=.inr (.inl rfl)
 have hF:=EI (ρ:=ρ) (w':=w.setCells g (i*ty.n) ds) (E:=E) (r:=r) (s:=E.sl r) hgo.size hb9
 have a2R:i*ty.n+ds.length<=(cs++rest).length:=by
  have:=k3.1
  have hb:i*ty.n+ty.n<=xs.length*ty.n:=by rw[<-Nat.succ_mul];exact Nat.mul_le_mul_right _ hi
  rw[List.length_append];omega
 obtain⟨m1,m2⟩:=hM.turn (w':=w.setCells g (i*ty.n) ds) r hgo (E.blk r) (E.sl r) (.row e ty (xs.set i x) v)
  ⟨by show bW E.blk r _ r=bV (bW E.sl r _ r);rw[aG,aG];exact k1,k2,_,by show World.ownsRow _ _ _ _ (bW E.sl r _ r) _ _;rw[aG,List.length_set];exact IJ k3 hg hi hl,aZ (fun c y=>dL hF hgo.stay ty c y) _ _ (EC (fun c y=>dZ ty c y) hd _ _ i k4 hi),by
   show CAv _ _ (bW E.sl r _ r);rw[aG];exact XZ k5 hg e4 a2R (xM ty k2 _ _ hd)⟩
  hb9 rfl (fun k e=>by cases e) (fun h=>by rw[hr] at h;exact h.elim) (fun h=>by rw[hr] at h;exact h.elim) (fun v' h=>by rw[hr] at h;exact h) (fun v' h h'=>by
   refine⟨by rw[hr];exact h',rfl,by rw[hr];rfl⟩) (fun v h=>h.elim)
 exact⟨m1,m2,by rw[hl];exact CS k3 hg hi,k2⟩
theorem b2h {r v id i g:Nat} {e e2:TypeId} {ty:Ty} {ids:Option (List Nat)} {xss:List (List ty.den)} {x:ty.den} {ds:List Value} (hM:Mem E ρ W w) (hr:ρ r=.mat e e2 ty ids xss v) (hid:id<xss.length) (hg:bV (E.inn r id)=some g) (hi:i<(rowAt xss id).length) (hd:rep (fz w E) w ty ds x) :
  ∃ E',Mem E' (bW ρ r (.mat e e2 ty ids (xss.set id ((rowAt xss id).set i x)) v)) W (w.setCells g (i*ty.n) ds)/\Ext E ρ w E' (bW ρ r (.mat e e2 ty ids (xss.set id ((rowAt xss id).set i x)) v)) (w.setCells g (i*ty.n) ds)/\w.there g (i*ty.n) ds.length/\ty.still=true:=by
 have h1:=hM.res r
 rw[hr] at h1
 obtain⟨k1,k2,⟨cs0,k3,k4,k5⟩,k6,k7,k8⟩:=h1
 obtain⟨cs,q1,q2,q3⟩:=qQ hM hr hid
 have hl:=dZ _ _ _ hd
 obtain⟨cap,rest,e1,e2',e3,e4,e5⟩:=owns_block q1 hg
 have hhas:E.has r (id+1) g:=hg
 have hgo:=zM (S:=fun q=>q=r) (vs:=ds) (o:=i*ty.n) rfl hhas e4 (xH q3 hg e4)
 have hF:∀ q,fz w E q->fz (w.setCells g (i*ty.n) ds) (E.vK r (E.blk r) (E.sl r) (E.inn r)) q:=vU (S:=fun q=>q=r) hgo.size rfl (fun q hq=>⟨aP _ _ hq,aP _ _ hq⟩) (fun r' j q e hh=>by
  subst e
  rw[qP,if_pos rfl] at hh
  cases j with
  | zero=>exact .inl ⟨r',0,hh⟩
  | succ j=>exact .inl ⟨r',j+1,hh⟩)
 have a2R:i*ty.n+ds.length<=(cs++rest).length:=by
  have:=q1.1
  have hb:i*ty.n+ty.n<=(rowAt xss id).length*ty.n:=by rw[<-Nat.succ_mul];exact Nat.mul_le_mul_right _ hi
  rw[List.length_append];omega
 have hne:∀ j q,E.has r j q->j≠id+1->(w.setCells g (i*ty.n) ds).heap[q]?=w.heap[q]?:=fun j q hh hj=>(qI g ds _ w).2.2.2.2 q (fun e=>hj ((hM.inj _ _ _ _ _ hh (by subst e;exact hhas)).2))
 have hlen:(aW ids (xss.set id ((rowAt xss id).set i x)))=aW ids xss:=by
  cases ids with
  | none=>simp[aW]
  | some l=>rfl
 have KF:(E.vK r (E.blk r) (E.sl r) (E.inn r)).inn r=E.inn r:=aG _ _ _
 have hsl:(E.vK r (E.blk r) (E.sl r) (E.inn r)).sl r=E.sl r:=aG _ _ _
 have hx:mG (E.vK r (E.blk r) (E.sl r) (E.inn r)) (w.setCells g (i*ty.n) ds) r (.mat e e2 ty ids (xss.set id ((rowAt xss id).set i x)) v):=by
  have hb0:∀ b,bV (E.sl r)=some b->(w.setCells g (i*ty.n) ds).heap[b]?=w.heap[b]?:=fun b hb=>hne 0 b (k1.trans hb) (by simp)
  refine⟨by rw[hsl];show bW E.blk r _ r=_;rw[aG];exact k1,k2,⟨cs0,?_,by rw[KF,hlen];exact k4,by rw[hsl];exact kT k5 hb0⟩,by rw[hlen,List.length_set];exact k6,by rw[KF,List.length_set];exact k7,fun j ys hj=>?_⟩
  ·rw[hsl,hlen];exact fM k3 hb0
  ·rw[KF]
   rw[List.getElem?_set] at hj
   split at hj
   ·rename_i ej
    subst ej
    simp only[hid,if_true,Option.some.injEq] at hj
    subst hj
    exact⟨_,by rw[List.length_set];exact IJ q1 hg hi hl,aZ (fun c y=>dL hF hgo.stay ty c y) _ _ (EC (fun c y=>dZ ty c y) hd _ _ i q2 hi),XZ q3 hg e4 a2R (xM ty k2 _ _ hd)⟩
   ·rename_i ej
    obtain⟨cs9,r1,r2,r3⟩:=k8 j ys hj
    have hb1:∀ b,bV (E.inn r j)=some b->(w.setCells g (i*ty.n) ds).heap[b]?=w.heap[b]?:=fun b hb=>hne (j+1) b hb (by omega)
    exact⟨cs9,fM r1 hb1,aZ (fun c y=>dL hF hgo.stay ty c y) _ _ r2,kT r3 hb1⟩
 obtain⟨m1,m2⟩:=hM.JD (w':=w.setCells g (i*ty.n) ds) r hgo (E.blk r) (E.sl r) (E.inn r) _ hx (fun q hq=>.inl (by
   rcases hq with hq|⟨j,hq⟩
   ·exact⟨0,hq⟩
   ·exact⟨j+1,hq⟩)) (fun q j h1 h2=>by have:=(hM.inj r 0 r (j+1) q h1 h2).2;omega) (fun j j' q h1 h2=>by have:=(hM.inj r (j+1) r (j'+1) q h1 h2).2;omega) (fun j hj=>hM.inner r j (by rw[hr];simpa [Res.cnt] using hj))
  (fun h=>by rw[hr] at h;exact h.elim) (fun h=>by rw[hr] at h;exact h.elim) (fun v' h=>by rw[hr] at h;exact h) (fun v' h h'=>⟨by rw[hr];exact h',rfl,by rw[hr];rfl⟩) (fun v' h h'=>⟨by rw[hr];exact h',by rw[hr];rfl,by rw[hr];simp[Res.cnt],fun _ _=>rfl⟩) (fun _ k e=>by cases e)
 exact⟨_,m1,m2,by rw[hl];exact CS q1 hg hi,k2⟩
theorem a2b {α:Type} (cs:List α) (i:Nat) (u:α) (h:i<cs.length):cs.take (i*1)++[u]++cs.drop (i*1+1)=cs.set i u:=by
 rw[Nat.mul_one,List.set_eq_take_append_cons_drop,if_pos h]
 simp
theorem IZ {p:Option Addr} {n c:Nat}:dJ (.slice p n c)=true:=by simp[dJ,bF,Value.oneCell']
theorem a5d {F:Nat->Prop} {e:TypeId} {t:Ty} {v:Value} {xs:List t.den} {cs:List Value} (h:w.ownsRow 0 e t.n v xs.length cs) (hc:chunks (rep F w t) cs xs):rep (fun _=>True) w (.list t) [v] xs:=by
 obtain⟨ds,e1,e2⟩:=nM (E:=⟨fun _=>none,fun _=>undef,fun _=>True,fun _ _=>undef,fun _=>False,fun _=>undef⟩) (F:=fun _=>True) h (aZ (fun c y=>dL (fun _ _=>trivial) ⟨fun _ _=>rfl,fun _ _ _ h=>h,Nat.le_refl _⟩ t c y) _ _ hc) (fun _ _=>trivial)
 obtain⟨p,c,e3,e4⟩:=e2
 have:v=.slice p xs.length c:=by rw[e1,e3];rfl
 exact⟨p,c,by rw[this],e4⟩
theorem b4y {r v id i g:Nat} {e e2:TypeId} {ty:Ty} {ids:Option (List Nat)} {xss:List (List ty.den)} (hM:Mem E ρ W w) (hr:ρ r=.mat e e2 ty ids xss v) (hid:id<xss.length) (hg:bV (E.sl r)=some g) (hi:i<aH ids xss) :
  ∃ E',Mem E' (bW ρ r (.mat e e2 ty (some ((aW ids xss).set i id)) xss v)) W (w.setCells g (i*1) [E.inn r id])/\Ext E ρ w E' (bW ρ r (.mat e e2 ty (some ((aW ids xss).set i id)) xss v)) (w.setCells g (i*1) [E.inn r id])/\w.there g (i*1) 1:=by
 have h1:=hM.res r
 rw[hr] at h1
 obtain⟨k1,k2,⟨cs0,k3,k4,k5⟩,k6,k7,k8⟩:=h1
 rw[<-zF] at hi
 obtain⟨cap,rest,e1,e2',e3,e4,e5⟩:=owns_block k3 hg
 have hhas:E.has r 0 g:=k1.trans hg
 have hgo:=zM (S:=fun q=>q=r) (vs:=[E.inn r id]) (o:=i*1) rfl hhas e4 (xH k5 hg e4)
 have hF:∀ q,fz w E q->fz (w.setCells g (i*1) [E.inn r id]) (E.vK r (E.blk r) (E.sl r) (E.inn r)) q:=vU (S:=fun q=>q=r) hgo.size rfl (fun q hq=>⟨aP _ _ hq,aP _ _ hq⟩) (fun r' j q e hh=>by
  subst e
  rw[qP,if_pos rfl] at hh
  cases j with
  | zero=>exact .inl ⟨r',0,hh⟩
  | succ j=>exact .inl ⟨r',j+1,hh⟩)
 have hcl:i<cs0.length:=by rw[k4,List.length_map];exact hi
 have a2R:i*1+[E.inn r id].length<=(cs0++rest).length:=by
  rw[List.length_append];simp only[List.length_singleton];omega
 have hne:∀ j q,E.has r j q->j≠0->(w.setCells g (i*1) [E.inn r id]).heap[q]?=w.heap[q]?:=fun j q hh hj=>(qI g _ _ w).2.2.2.2 q (fun e=>hj ((hM.inj _ _ _ _ _ hh (by subst e;exact hhas)).2))
 have KF:(E.vK r (E.blk r) (E.sl r) (E.inn r)).inn r=E.inn r:=aG _ _ _
 have hsl:(E.vK r (E.blk r) (E.sl r) (E.inn r)).sl r=E.sl r:=aG _ _ _
 have hok:∀ u ∈ [E.inn r id],dJ u=true:=fun u hu=>by
  obtain⟨cs,q1,_⟩:=qQ hM hr hid
  obtain⟨p,c,e1⟩:=pX q1
  rw[List.mem_singleton.1 hu,e1];exact IZ
 have hx:mG (E.vK r (E.blk r) (E.sl r) (E.inn r)) (w.setCells g (i*1) [E.inn r id]) r (.mat e e2 ty (some ((aW ids xss).set i id)) xss v):=by
  refine⟨by rw[hsl];show bW E.blk r _ r=_;rw[aG];exact k1,k2,⟨cs0.set i (E.inn r id),?_,?_,by rw[hsl];exact XZ k5 hg e4 a2R hok⟩,fun x hx=>?_,by rw[KF];exact k7,fun j ys hj=>?_⟩
  ·rw[hsl]
   have:=IJ (ds:=[E.inn r id]) k3 hg hi rfl
   rw[a2b _ _ _ hcl] at this
   simpa [aW] using this
  ·rw[KF,k4]
   simp only[aW]
   rw[List.map_set]
  ·rcases List.mem_or_eq_of_mem_set hx with hx|rfl
   ·exact k6 x hx
   ·exact hid
  ·rw[KF]
   obtain⟨cs9,r1,r2,r3⟩:=k8 j ys hj
   have hb1:∀ b,bV (E.inn r j)=some b->(w.setCells g (i*1) [E.inn r id]).heap[b]?=w.heap[b]?:=fun b hb=>hne (j+1) b hb (by omega)
   exact⟨cs9,fM r1 hb1,aZ (fun c y=>dL hF hgo.stay ty c y) _ _ r2,kT r3 hb1⟩
 obtain⟨m1,m2⟩:=hM.JD (w':=w.setCells g (i*1) [E.inn r id]) r hgo (E.blk r) (E.sl r) (E.inn r) _ hx (fun q hq=>.inl (by
   rcases hq with hq|⟨j,hq⟩
   ·exact⟨0,hq⟩
   ·exact⟨j+1,hq⟩)) (fun q j h1 h2=>by have:=(hM.inj r 0 r (j+1) q h1 h2).2;omega) (fun j j' q h1 h2=>by have:=(hM.inj r (j+1) r (j'+1) q h1 h2).2;omega) (fun j hj=>hM.inner r j (by rw[hr];simpa [Res.cnt] using hj))
  (fun h=>by rw[hr] at h;exact h.elim) (fun h=>by rw[hr] at h;exact h.elim) (fun v' h=>by rw[hr] at h;exact h) (fun v' h h'=>⟨by rw[hr];exact h',rfl,by rw[hr];rfl⟩) (fun v' h h'=>⟨by rw[hr];exact h',by rw[hr];rfl,by rw[hr];exact Nat.le_refl _,fun _ _=>rfl⟩) (fun _ k e=>by cases e)
 exact⟨_,m1,m2,CS (n:=1) k3 hg hi⟩
theorem b4x {r r2 v v2 i g:Nat} {e e2:TypeId} {ty:Ty} {ids:Option (List Nat)} {xss:List (List ty.den)} {ys:List ty.den} (hM:Mem E ρ W w) (hr:ρ r=.mat e e2 ty ids xss v) (hr2:ρ r2=.row e2 ty ys v2) (hne:r2≠r) (hg:bV (E.sl r)=some g) (hi:i<aH ids xss) :
  ∃ E',Mem E' (bW (bW ρ r (.mat e e2 ty (some ((aW ids xss).set i xss.length)) (xss++[ys]) v)) r2 (.row e2 ty [] (nx v2))) W (w.setCells g (i*1) [E.sl r2])/\Ext E ρ w E' (bW (bW ρ r (.mat e e2 ty (some ((aW ids xss).set i xss.length)) (xss++[ys]) v)) r2 (.row e2 ty [] (nx v2))) (w.setCells g (i*1) [E.sl r2])/\w.there g (i*1) 1:=by
 have h1:=hM.res r
 rw[hr] at h1
 obtain⟨k1,k2,⟨cs0,k3,k4,k5⟩,k6,k7,k8⟩:=h1
 have h2:=hM.res r2
 rw[hr2] at h2
 obtain⟨p1,p2,cs2,p3,p4,p5⟩:=h2
 rw[<-zF] at hi
 obtain⟨cap,rest,e1,e2',e3,e4,e5⟩:=owns_block k3 hg
 have hhas:E.has r 0 g:=k1.trans hg
 have hgo:=zM (S:=fun q=>q=r\/q=r2) (vs:=[E.sl r2]) (o:=i*1) (.inl rfl) hhas e4 (xH k5 hg e4)
 let w':=w.setCells g (i*1) [E.sl r2]
 let E':Env:=(E.vK r (E.blk r) (E.sl r) (bW (E.inn r) xss.length (E.sl r2))).put r2 none (.slice none 0 0)
 have hcl:i<cs0.length:=by rw[k4,List.length_map];exact hi
 have a2R:i*1+[E.sl r2].length<=(cs0++rest).length:=by
  rw[List.length_append];simp only[List.length_singleton];omega
 have hnr:r≠r2:=fun e=>hne e.symm
 have a1a:E'.blk r=E.blk r:=by show bW (bW E.blk r _) r2 _ r=_;rw[aP _ _ hnr,aG]
 have YO:E'.sl r=E.sl r:=by show bW (bW E.sl r _) r2 _ r=_;rw[aP _ _ hnr,aG]
 have yJ:E'.inn r=bW (E.inn r) xss.length (E.sl r2):=by show bW (bW E.inn r _) r2 _ r=_;rw[aP _ _ hnr,aG]
 have a0:E'.blk r2=none:=aG _ _ _
 have QX:E'.sl r2=.slice none 0 0:=aG _ _ _
 have b0:E'.inn r2=fun _=>undef:=aG _ _ _
 have hE:∀ q,¬ (q=r\/q=r2)->E'.blk q=E.blk q/\E'.sl q=E.sl q/\E'.inn q=E.inn q/\(bW (bW ρ r (.mat e e2 ty (some ((aW ids xss).set i xss.length)) (xss++[ys]) v)) r2 (.row e2 ty [] (nx v2))) q=ρ q:=fun q hq=>by
  have n1:q≠r:=fun e=>hq (.inl e)
  have n2:q≠r2:=fun e=>hq (.inr e)
  exact⟨(aP _ _ n2).trans (aP _ _ n1),(aP _ _ n2).trans (aP _ _ n1),(aP _ _ n2).trans (aP _ _ n1),(aP _ _ n2).trans (aP _ _ n1)⟩
 have YR:∀ j b,¬ E'.has r2 j b:=fun j b hh=>by
  cases j with
  | zero=>have hh:E'.blk r2=some b:=hh;rw[a0] at hh;cases hh
  | succ j=>have hh:bV (E'.inn r2 j)=some b:=hh;rw[b0] at hh;cases hh
 have hmap:∀ j b,E'.has r j b->(j=xss.length+1/\E.has r2 0 b)\/(j≠xss.length+1/\E.has r j b):=fun j b hh=>by
  cases j with
  | zero=>exact .inr ⟨by omega,by show E.blk r=some b;rw[<-a1a];exact hh⟩
  | succ j =>
   have hh:bV (E'.inn r j)=some b:=hh
   rw[yJ] at hh
   by_cases ej:j=xss.length
   ·subst ej
    rw[aG] at hh
    exact .inl ⟨rfl,p1.trans hh⟩
   ·rw[aP _ _ ej] at hh
    exact .inr ⟨by omega,hh⟩
 have hF:∀ q,fz w E q->fz w' E' q:=vU (S:=fun q=>q=r\/q=r2) hgo.size rfl (fun q hq=>⟨(hE q hq).1,(hE q hq).2.2.1⟩) (fun r' j q e hh=>by
  rcases e with rfl|rfl
  ·rcases hmap j q hh with⟨_,h⟩|⟨_,h⟩
   ·exact .inl ⟨_,_,h⟩
   ·exact .inl ⟨_,_,h⟩
  ·exact(YR j q hh).elim)
 have hnb:∀ r' j q,E.has r' j q->(r'≠r\/j≠0)->w'.heap[q]?=w.heap[q]?:=fun r' j q hh hj=>(qI g _ _ w).2.2.2.2 q (fun e=>by
  have:=hM.inj _ _ _ _ _ hh (by subst e;exact hhas)
  rcases hj with hj|hj
  ·exact hj this.1
  ·exact hj this.2)
 have hok:∀ u ∈ [E.sl r2],dJ u=true:=fun u hu=>by
  obtain⟨p,c,e1⟩:=pX p3
  rw[List.mem_singleton.1 hu,e1];exact IZ
 have KI:(bW (bW ρ r (.mat e e2 ty (some ((aW ids xss).set i xss.length)) (xss++[ys]) v)) r2 (.row e2 ty [] (nx v2))) r=.mat e e2 ty (some ((aW ids xss).set i xss.length)) (xss++[ys]) v:=(aP _ _ hnr).trans (aG _ _ _)
 have zO:(bW (bW ρ r (.mat e e2 ty (some ((aW ids xss).set i xss.length)) (xss++[ys]) v)) r2 (.row e2 ty [] (nx v2))) r2=.row e2 ty [] (nx v2):=aG _ _ _
 have hx:mG E' w' r (.mat e e2 ty (some ((aW ids xss).set i xss.length)) (xss++[ys]) v):=by
  refine⟨by rw[YO,a1a];exact k1,k2,⟨cs0.set i (E.sl r2),?_,?_,by rw[YO];exact XZ k5 hg e4 a2R hok⟩,fun x hx=>?_,fun j hj=>?_,fun j zs hj=>?_⟩
  ·rw[YO]
   have:=IJ (ds:=[E.sl r2]) k3 hg hi rfl
   rw[a2b _ _ _ hcl] at this
   show w'.ownsRow 0 e 1 (E.sl r) ((aW ids xss).set i xss.length).length _
   rw[List.length_set]
   exact this
  ·rw[yJ,k4]
   simp only[aW]
   rw[List.map_set,aG]
   congr 1
   refine List.map_congr_left (fun x hx=>?_)
   have:=k6 x hx
   rw[aP _ _ (by omega)]
  ·rw[List.length_append]
   rcases List.mem_or_eq_of_mem_set hx with hx|rfl
   ·have:=k6 x hx;simp;omega
   ·simp
  ·rw[List.length_append,List.length_singleton] at hj
   rw[yJ,aP _ _ (by omega)]
   exact k7 j (by omega)
  ·rw[yJ]
   by_cases ej:j=xss.length
   ·subst ej
    rw[List.getElem?_append_right (Nat.le_refl _),Nat.sub_self] at hj
    cases hj
    rw[aG]
    have hb1:∀ b,bV (E.sl r2)=some b->w'.heap[b]?=w.heap[b]?:=fun b hb=>hnb r2 0 b (p1.trans hb) (.inl hne)
    exact⟨cs2,fM p3 hb1,aZ (fun c y=>dL hF hgo.stay ty c y) _ _ p4,kT p5 hb1⟩
   ·have hj2:xss[j]?=some zs:=by
     by_cases hjl:j<xss.length
     ·rwa [List.getElem?_append_left hjl] at hj
     ·rw[List.getElem?_eq_none (by rw[List.length_append,List.length_singleton];omega)] at hj;cases hj
    rw[aP _ _ ej]
    obtain⟨cs9,r1,r2,r3⟩:=k8 j zs hj2
    have hb1:∀ b,bV (E.inn r j)=some b->w'.heap[b]?=w.heap[b]?:=fun b hb=>hnb r (j+1) b hb (.inr (by omega))
    exact⟨cs9,fM r1 hb1,aZ (fun c y=>dL hF hgo.stay ty c y) _ _ r2,kT r3 hb1⟩
 have hx2:mG E' w' r2 (.row e2 ty [] (nx v2)):=by
  refine⟨by rw[a0,QX];rfl,p2,[],by rw[QX];exact World.ownsRow_nil _ _ _ _,rfl,by rw[QX];intro g hg;cases hg⟩
 obtain⟨m1,m2⟩:=hM.turns (E':=E') (w':=w') (fun q=>q=r\/q=r2) hgo hE rfl rfl rfl (fun r' j b e hh=>by
   rcases e with rfl|rfl
   ·rcases hmap j b hh with⟨_,h⟩|⟨_,h⟩
    ·exact .inl ⟨_,_,.inr rfl,h⟩
    ·exact .inl ⟨_,_,.inl rfl,h⟩
   ·exact(YR j b hh).elim) (fun r' j r'' j' b e' e'' hh hh'=>by
   rcases e' with rfl|rfl
   ·rcases e'' with rfl|rfl
    ·refine⟨rfl,?_⟩
     rcases hmap j b hh with⟨q1,q2⟩|⟨q1,q2⟩<;>rcases hmap j' b hh' with⟨q3,q4⟩|⟨q3,q4⟩
     ·omega
     ·exact absurd (hM.inj _ _ _ _ _ q2 q4).1 hne
     ·exact absurd (hM.inj _ _ _ _ _ q4 q2).1 hne
     ·exact(hM.inj _ _ _ _ _ q2 q4).2
    ·exact(YR j' b hh').elim
   ·exact(YR j b hh).elim) (fun r' i' e' hc=>by
   rcases e' with rfl|rfl
   ·rw[KI] at hc
    have hc:(xss++[ys]).length<=i':=hc
    rw[List.length_append,List.length_singleton] at hc
    rw[yJ,aP _ _ (by omega)]
    exact k7 i' (by omega)
   ·rw[b0];rfl) (fun r' e' h=>by rcases e' with rfl|rfl<;>first|(rw[hr] at h;exact h.elim)|(rw[hr2] at h;exact h.elim)) (fun r' e' h=>by rcases e' with rfl|rfl<;>first|(rw[hr] at h;exact h.elim)|(rw[hr2] at h;exact h.elim)) (fun r' v' e' h=>by
   rcases e' with rfl|rfl
   ·rw[hr] at h;rw[KI];exact h
   ·rw[hr2] at h;rw[zO];exact Nat.le_trans h (a4K _)) (fun r' v' e' h h'=>by
   rcases e' with rfl|rfl
   ·rw[KI] at h' ⊢;exact⟨by rw[hr];exact h',YO,by rw[hr];rfl⟩
   ·rw[hr2] at h;rw[zO] at h'
    have h:v'<=v2:=h
    have h':gv (nx v2)=gv v':=h'
    have:=MN h
    have:=a0Z v2
    omega) (fun r' v' e' h h'=>by
   rcases e' with rfl|rfl
   ·rw[KI] at h' ⊢
    refine⟨by rw[hr];exact h',by rw[hr];rfl,by rw[hr];simp[Res.cnt],fun i' hi'=>?_⟩
    rw[hr] at hi'
    have hi':i'<xss.length:=hi'
    rw[yJ,aP _ _ (by omega)]
   ·rw[zO] at h';exact h'.elim) (fun r' e'=>by
   rcases e' with rfl|rfl
   ·rw[KI];exact hx
   ·rw[zO];exact hx2) (fun _ r' k e' h=>by
   rcases e' with rfl|rfl
   ·rw[KI] at h;cases h
   ·rw[zO] at h;cases h)
 exact⟨E',m1,m2,CS (n:=1) k3 hg hi⟩
end
end
section
set_option linter.unusedSimpArgs false
set_option linter.unusedVariables false
def IV (v:Nat):Res->Bool
 | .row _ _ _ v'=>gv v'==gv v
 | .fro _ _ v'=>gv v'==gv v
 | .mat _ _ _ _ _ v'=>gv v'==gv v
 | _=>false
theorem AU {v:Nat} {x:Res} (h:IV v x=true):Res.isRow v x:=by cases x<;>simp_all [IV,Res.isRow]
def b2f (P:Program) (t:TypeId):Bool:=tH P t==some false&&(P.info? t).map (·.size)==some 1
def ownB (ρ:Nat->Res):K->Bool
 | .own r v=>IV v (ρ r)
 | _=>true
def b9L (r:Nat) (l:List (Nat × Res)):Bool:=l.all fun q=>q.1 != r
def setRow (r v i:Nat) (e:TypeId) (ty:Ty) (xs:List ty.den) (x:ty.den) (vc:List Prop) (l:List (Nat × Res)):MK:=some ([i<xs.length]++vc,.any,l++[(r,.row e ty (xs.set i x) v)])
def setPos (r v id i:Nat) (e e2:TypeId) (ty:Ty) (ids:Option (List Nat)) (xss:List (List ty.den)) (x:ty.den) (vc:List Prop) (l:List (Nat × Res)):MK:=some ([i<(rowAt xss id).length]++vc,.any,l++[(r,.mat e e2 ty ids (xss.set id ((rowAt xss id).set i x)) v)])
def b3t (r v id i:Nat) (e e2:TypeId) (ty:Ty) (ids:Option (List Nat)) (xss:List (List ty.den)):MK:=some ([i<aH ids xss],.any,[(r,.mat e e2 ty (some ((aW ids xss).set i id)) xss v)])
def b3s (r r2 v v2 i:Nat) (e e2:TypeId) (ty:Ty) (ids:Option (List Nat)) (xss:List (List ty.den)) (ys:List ty.den):MK:=some ([i<aH ids xss],.any,[(r,.mat e e2 ty (some ((aW ids xss).set i xss.length)) (xss++[ys]) v),(r2,.row e2 ty [] (nx v2))])
def a4X (r:Nat) (e:TypeId) (ty:Ty) (a b:Int):MK:=some ([a=b,0<=a,a<=1000000000],.own r 0,[(r,.row e ty (List.replicate a.toNat ty.zero) 0)])
def a4W (r:Nat) (e e2:TypeId) (ty:Ty) (a b:Int):MK:=some ([a=b,0<=a,a<=1000000000],.own r 0,[(r,.mat e e2 ty none (List.replicate a.toNat []) 0)])
def b8V (P:Program) (T:Told) (t:TypeId):Option Ty:=match P.underlying t with
 | some (.slice e)=>T.ty e
 | _=>none
def a0l (P:Program) (T:Told) (ρ:Nat->Res) (k:Operand->K) (d:Option Nat):Op->MK
 | .store t x y=>match k x with
  | .cell r v i=>match ρ r with
   | .row e ty xs v'=>match wQ ρ (some ty) (k y) with
    | some (p,l)=>match nV p.t ty with
     | some q=>if gv v==gv v'&&fitsT P t ty&&b9L r l then setRow r v' i e ty xs (q.f p.x) (q.c p.x) l else none
     | none=>none
    | none=>none
   | .mat e e2 ty ids xss v'=>match k y with
    | .mrow r' vv id=>if r==r'&&gv v==gv v'&&vv==v'&&fitsT P t (.list ty) then b3t r v' id i e e2 ty ids xss else none
    | .own r2 v2=>match ρ r2 with
     | .row e2' ty' ys v2'=>match jT (.list ty') (.list ty) ys with
      | some zs=>if r2 != r&&gv v==gv v'&&gv v2==gv v2'&&e2'==e2&&fitsT P t (.list ty) then b3s r r2 v' v2' i e e2 ty ids xss zs else none
      | none=>none
     | _=>none
    | _=>none
   | _=>none
  | .mpos r v id i=>match ρ r with
   | .mat e e2 ty ids xss v'=>match wQ ρ (some ty) (k y) with
    | some (p,l)=>match nV p.t ty with
     | some q=>if v==v'&&fitsT P t ty&&b9L r l then setPos r v id i e e2 ty ids xss (q.f p.x) (q.c p.x) l else none
     | none=>none
    | none=>none
   | _=>none
  | .lY r=>match ρ r with
   | .lH _=>if (k y).one&&ownB ρ (k y)&&b2f P t then some ([],.any,[(r,.lH (k y))]) else none
   | _=>none
  | _=>none
 | .makeSlice t n m=>match k n,k m,d with
  | .val (.int _) a,.val (.int _) b,some r=>match T.mt r with
   | some ty=>match sliceB P t (.list ty) 0 with
    | some e=>match sliceB P e ty 0 with
     | some e2=>if (ρ r).isNone&&ty.still&&NM P e&&XI P e (.list ty) then a4W r e e2 ty a b else none
     | none=>none
    | none=>none
   | none=>match b8V P T t with
    | some ty=>match sliceB P t ty 0 with
     | some e=>if (ρ r).isNone&&ty.still&&NM P e&&XI P e ty then a4X r e ty a b else none
     | none=>none
    | none=>none
  | _,_,_=>none
 | _=>none
section
variable {P:Program} {E:Env} {ρ:Nat->Res} {W w:World}
theorem a4q {a b:Ty} {q:Coe a b} (h:nV a b=some q) (cs:List Value):a.toV cs=b.toV cs:=by
 unfold Ty.toV;rw[vP _ _ _ h]
theorem a3C (z:Array Value) (s:Nat) (hs:z.size=s):∀ n,((Array.range (n*s)).map (fun q=>z[q%z.size]!)).toList=(List.replicate n z.toList).flatten:=by
 intro n
 rw[Array.toList_map,Array.toList_range]
 induction n with
 | zero=>simp
 | succ n ih =>
  rw[Nat.succ_mul,List.range_add,List.map_append,ih,List.replicate_succ',List.flatten_append]
  congr 1
  simp only[List.flatten_cons,List.flatten_nil,List.append_nil,List.map_map]
  apply List.ext_getElem?
  intro j
  rw[List.getElem?_map]
  by_cases hj:j<s
  ·rw[List.getElem?_range hj]
   have hm:(n*s+j)%z.size=j:=by rw[hs,Nat.add_comm,Nat.add_mul_mod_self_right,Nat.mod_eq_of_lt hj]
   have hj2:j<z.size:=by omega
   simp only[Option.map_some,Function.comp,hm]
   rw[getElem!_pos z j hj2,Array.getElem?_toList,Array.getElem?_eq_getElem hj2]
  ·rw[List.getElem?_eq_none (by simpa using hj),List.getElem?_eq_none (by rw[Array.length_toList];omega)];rfl
theorem run_make {t e:TypeId} {i:TypeInfo} {z:Value} {s n:Nat} {kl kc:IntKind} (h1:P.underlying t=some (.slice e)) (h2:P.info? e=some i) (h3:i.zero=some z) (h4:i.size=s) (h5:z.cells.size=s) (h6:0<s) (h7:i.bytes<=100000) (h8:n<=1000000000) :
  (Instr.makeSlice t (.int kl (n:Int)) (.int kc (n:Int))).run P w=.ok (.slice (some ⟨w.heap.size,0,none⟩) n n) (w.alloc (.cells ((List.replicate n z.cells.toList).flatten).toArray e)):=by
 have hb:i.bytes*n<=100000*1000000000:=Nat.mul_le_mul h7 h8
 have wl:IntKind.i64.wrap (n:Int)=n:=by rw[IntKind.wrap_i64];omega
 have n1:¬ ((n:Int)<0):=by omega
 have n2:¬ (281474976710656<(i.bytes:Int)*(n:Int)):=by
  rw[<-Int.natCast_mul];omega
 have n5:¬ (n*i.bytes > roomBytes):=by rw[Nat.mul_comm];simp only[roomBytes];omega
 have key:((Array.range (n*s)).map (fun q=>(if n*s=0 then #[] else z.cells)[q%(if n*s=0 then #[] else z.cells).size]!))=((List.replicate n z.cells.toList).flatten).toArray:=by
  apply Array.ext'
  by_cases hz:n*s=0
  ·have hn0:n=0:=by
    rcases Nat.mul_eq_zero.1 hz with h|h
    ·exact h
    ·omega
   subst hn0
   simp
  ·rw[if_neg hz]
   exact a3C z.cells s h5 n
 by_cases hz:n*s=0
 ·rw[if_pos hz] at key
  simp[Instr.makeSlice,run_underlying h1 w,Sem.run_bind,asInt,asIntOf,typeInfo,h2,wl,n1,n2,n5,askRoom,sizeOf,h4,hz,newRow]
  simp only[hz,if_true] at key
  simpa using congrArg (fun c=>w.alloc (.cells c e)) key
 ·rw[if_neg hz] at key
  simp[Instr.makeSlice,run_underlying h1 w,Sem.run_bind,asInt,asIntOf,typeInfo,h2,wl,n1,n2,n5,askRoom,sizeOf,h4,hz,zeroValue,h3,newRow]
  exact congrArg (fun c=>w.alloc (.cells c e)) key
theorem CQ {o:Oper} {ev:Operand->Value} {t:TypeId} {ty:Ty} {x y:Operand} {b off:Nat} {ds:List Value} {F:Nat->Prop} {u:ty.den} (ho:o.op=.store t x y) (hf:fitsT P t ty=true) (hs:ty.still=true) (hx:ev x=.pointer (some ⟨b,off,none⟩)) (hy:ev y=ty.toV ds) (hc:w.there b off ds.length) (hr:rep F w ty ds u):(execOp ev o).run P w=.ok .skip (w.setCells b off ds):=by
 simp only[execOp,ho,Sem.run_bind,hx,hy,Instr.storeAt,Instr.sureAddr,Sem.run_pure,Result.andThen_ok]
 rw[yM hf hs hc hr]
 rfl
theorem WL {t:Ty}:(Ty.list t).still=true:=rfl
theorem a6v {t:TypeId} (h:b2f P t=true):tH P t=some false/\∃ i,P.info? t=some i/\i.size=1:=by
 unfold b2f at h
 simp only[Bool.and_eq_true,beq_iff_eq] at h
 refine⟨h.1,?_⟩
 cases hi:P.info? t with
 | none=>rw[hi] at h;simp at h
 | some i=>rw[hi] at h;exact⟨i,rfl,by simpa using h.2⟩
theorem UQ {t:TypeId} {b:Nat} {v:Value} (h:b2f P t=true) (hc:w.there b 0 1) (hok:dJ v=true) (hcells:v.cells=#[v]):(storeVar t ⟨b,0,none⟩ v).run P w=.ok () (w.setCells b 0 [v]):=by
 obtain⟨_,i,hi,hn⟩:=a6v h
 have hst:=run_storeCells_cells (P:=P) b 0 [v] 0 w (fun j hj=>by simpa using (hc j hj).1) (fun j hj=>by simpa using (hc j hj).2) (fun u hu=>by rw[List.mem_singleton.1 hu];simp only[dJ,Bool.and_eq_true] at hok;exact hok.1)
 simp only[Nat.add_zero] at hst
 unfold storeVar
 rw[Sem.run_bind,run_sizeOf hi]
 simp[hcells,hn,hst]
theorem a8G {r b:Nat} {k k':K} {v:Value} (hM:Mem E ρ W w) (hr:ρ r=.lH k) (hb:E.blk r=some b) (ho:k'.one=true) (hok:dJ v=true) (hw:k'.wf ρ) (hk:k'.holds E ρ w v) :
  ∃ E',Mem E' (bW ρ r (.lH k')) W (w.setCells b 0 [v])/\Ext E ρ w E' (bW ρ r (.lH k')) (w.setCells b 0 [v])/\w.there b 0 1:=by
 obtain⟨q1,q2,b',u,e,q3,q4,q5,q6⟩:=hM.kbx r k hr
 rw[hb] at q3;cases q3
 have hu:bF u=true:=by simp only[dJ,Bool.and_eq_true] at q5;exact q5.2
 have hgo:=zM (E:=E) (S:=fun q=>q=r) (vs:=[v]) (o:=0) (cs:=[u]) (e:=e) rfl (show E.has r 0 b from hb) q4 (fun x hx=>by rw[List.mem_singleton.1 hx];exact hu)
 have hh:=kV b [v] 0 w [u] e q4 (by simp)
 have hcnt:(ρ r).cnt=0:=by rw[hr];rfl
 obtain⟨m1,m2⟩:=hM.JD (w':=w.setCells b 0 [v]) r hgo (some b) (E.sl r) (E.inn r) (.lH k') trivial (fun q hq=>.inl (by
   rcases hq with hq|⟨j,hq⟩
   ·cases hq;exact⟨0,hb⟩
   ·rw[hM.inner r j (by rw[hcnt];exact Nat.zero_le _)] at hq;cases hq)) (fun q j h1 h2=>by rw[hM.inner r j (by rw[hcnt];exact Nat.zero_le _)] at h2;cases h2) (fun j j' q h1 h2=>by rw[hM.inner r j (by rw[hcnt];exact Nat.zero_le _)] at h1;cases h1) (fun j hj=>hM.inner r j (by rw[hcnt];exact Nat.zero_le _))
  (fun h=>by rw[hr] at h;exact h.elim) (fun _=>⟨trivial,fun _=>⟨by rw[hr];trivial,hb.symm⟩⟩) (fun v' h=>by rw[hr] at h;exact h.elim) (fun v' h=>by rw[hr] at h;exact h.elim) (fun v' h=>by rw[hr] at h;exact h.elim) (fun hX k9 e9=>by
   cases e9
   exact⟨hX.wf k' hw,ho,b,v,e,aG _ _ _,by simpa using hh,hok,hX.holds k' v hw hk⟩)
 refine⟨_,m1,m2,fun j hj=>⟨?_,by simp[World.frozen?,q4]⟩⟩
 have:j=0:=by omega
 subst this
 rw[cell_of_row _ _ _ _ _ _ q4];rfl
theorem LV {α:Type} {R:List Value->α->Prop} {c:List Value} {x:α} (h:R c x):∀ n,chunks R ((List.replicate n c).flatten) (List.replicate n x)
 | 0=>rfl
 | n+1=>⟨c,_,by rw[List.replicate_succ,List.flatten_cons],h,LV h n⟩
theorem ER {e:TypeId} {n m:Nat} {L:List Value} (hL:L.length=n*m) (hn:n<=1000000000) (hok:∀ u ∈ L,dJ u=true) :
  Below w.heap.size w (w.alloc (.cells L.toArray e))/\(w.alloc (.cells L.toArray e)).ownsRow 0 e m (.slice (some ⟨w.heap.size,0,none⟩) n n) n L/\CAv dJ (w.alloc (.cells L.toArray e)) (.slice (some ⟨w.heap.size,0,none⟩) n n):=by
 have hc:(w.alloc (.cells L.toArray e)).heap[w.heap.size]?=some (.cells L.toArray e (0,0)):=heap_alloc_new w _
 refine⟨(Below.refl _ _).alloc (Nat.le_refl _) _,⟨hL,.inr ⟨w.heap.size,n,L.toArray,rfl,Nat.zero_le _,hc,Nat.le_refl _,by simp only[maxLen];omega,by simpa using hL,by rw[<-hL];simp⟩⟩,fun g hg=>?_⟩
 cases hg
 exact CA.of_cells hc (fun u hu=>hok u (by simpa using hu))
theorem b2T {T:Told} {k:Operand->K} {ev:Operand->Value} {o:Oper} {vc:List Prop} {kk:K} {l:List (Nat × Res)} (h:a0l P T ρ k o.dst o.op=some (vc,kk,l)) (hv:aV vc) (hM:Mem E ρ W w) (hw:∀ x,(k x).wf ρ) (hk:∀ x,(k x).holds E ρ w (ev x)):gG P E ρ W w o ev kk l:=by
 cases ho:o.op<;>rw[ho] at h<;>try (simp[a0l] at h;done)
 case store t x y =>
  simp only[a0l] at h
  have hkx:=hk x
  have hwx:=hw x
  split at h<;>first|(cases h;done)|skip
  ·rename_i r v i hx
   rw[hx] at hkx hwx
   split at h<;>first|(cases h;done)|skip
   ·rename_i e ty xs v' hr
    split at h<;>first|(cases h;done)|skip
    rename_i p l1 hat
    split at h<;>first|(cases h;done)|skip
    rename_i q hq
    split at h<;>first|(cases h;done)|skip
    rename_i hb
    simp only[Bool.and_eq_true,beq_iff_eq] at hb
    obtain⟨⟨hb1,hb2⟩,hb3⟩:=hb
    simp only[setRow,Option.some.injEq,Prod.mk.injEq] at h
    obtain⟨rfl,rfl,rfl⟩:=h
    obtain⟨hi,hvq⟩:=hv
    obtain⟨E1,m1,m2,cs,hyv,hyr⟩:=qG hat hM (hw y) (hk y)
    have hr1:after ρ l1 r=.row e ty xs v':=by rw[qK l1 ρ r hb3];exact hr
    obtain⟨g,g1,g2⟩:=m2.holds _ _ hwx hkx (by rw[hr1];exact hb1.symm)
    rw[hr1] at g2
    have a8A:=wS _ _ _ hq cs _ hyr hvq
    obtain⟨n1,n2,n3,n4⟩:=b2t m1 hr1 g1 hi a8A
    exact⟨.skip,undef,_,_,CQ ho hb2 n4 g2 (by rw[hyv];exact a4q hq cs) n3 a8A,.inr ⟨rfl,rfl⟩,by rw[gU];exact n1,by rw[gU];exact m2.trans n2,trivial,trivial⟩
   ·rename_i e e2 ty ids xss v' hr
    have EL:gv v=gv v'->∃ b,bV (E.sl r)=some b/\ev x=.pointer (some ⟨b,i*1,none⟩):=fun e1=>by
     have:=hkx (by rw[hr];exact e1.symm)
     rw[hr] at this
     exact this
    split at h<;>first|(cases h;done)|skip
    ·rename_i r' vv id hy
     split at h<;>first|(cases h;done)|skip
     rename_i hb
     simp only[Bool.and_eq_true,beq_iff_eq] at hb
     obtain⟨⟨⟨hb1,hb2⟩,hb3⟩,hb4⟩:=hb
     subst hb1 hb3
     simp only[b3t,Option.some.injEq,Prod.mk.injEq] at h
     obtain⟨rfl,rfl,rfl⟩:=h
     have hky:=hk y
     have hwy:=hw y
     rw[hy] at hky hwy
     have hid:=hwy.2 (by rw[hr];rfl)
     rw[hr] at hid
     obtain⟨g,g1,g2⟩:=EL hb2
     have hyv:ev y=E.inn r id:=hky (by rw[hr];rfl)
     obtain⟨cs,q1,q2,_⟩:=qQ hM hr hid
     obtain⟨E',n1,n2,n3⟩:=b4y hM hr hid g1 hv.1
     exact⟨.skip,undef,_,E',CQ (ds:=[E.inn r id]) ho hb4 WL g2 (by rw[hyv];rfl) n3 (a5d q1 q2),.inr ⟨rfl,rfl⟩,n1,n2,trivial,trivial⟩
    ·rename_i r2 v2 hy
     split at h<;>first|(cases h;done)|skip
     rename_i e2' ty' ys v2' hr2
     split at h<;>first|(cases h;done)|skip
     rename_i zs hcast
     split at h<;>first|(cases h;done)|skip
     rename_i hb
     simp only[Bool.and_eq_true,beq_iff_eq,bne_iff_ne,ne_eq] at hb
     obtain⟨⟨⟨⟨hb1,hb2⟩,hb3⟩,hb4⟩,hb5⟩:=hb
     subst hb4
     obtain⟨e9,hcast⟩:=fH hcast
     simp only[Ty.list.injEq] at e9
     subst e9
     have hcast:ys=zs:=hcast
     subst hcast
     simp only[b3s,Option.some.injEq,Prod.mk.injEq] at h
     obtain⟨rfl,rfl,rfl⟩:=h
     have hky:=hk y
     rw[hy] at hky
     obtain⟨g,g1,g2⟩:=EL hb2
     have hyv:ev y=E.sl r2:=hky (by rw[hr2];exact hb3.symm)
     have h2:=hM.res r2
     rw[hr2] at h2
     obtain⟨_,_,cs2,p3,p4,_⟩:=h2
     obtain⟨E',n1,n2,n3⟩:=b4x hM hr hr2 hb1 g1 hv.1
     exact⟨.skip,undef,_,E',CQ (ds:=[E.sl r2]) ho hb5 WL g2 (by rw[hyv];rfl) n3 (a5d p3 p4),.inr ⟨rfl,rfl⟩,n1,n2,trivial,trivial⟩
  ·rename_i r v id i hx
   rw[hx] at hkx hwx
   split at h<;>first|(cases h;done)|skip
   rename_i e e2 ty ids xss v' hr
   split at h<;>first|(cases h;done)|skip
   rename_i p l1 hat
   split at h<;>first|(cases h;done)|skip
   rename_i q hq
   split at h<;>first|(cases h;done)|skip
   rename_i hb
   simp only[Bool.and_eq_true,beq_iff_eq] at hb
   obtain⟨⟨hb1,hb2⟩,hb3⟩:=hb
   subst hb1
   simp only[setPos,Option.some.injEq,Prod.mk.injEq] at h
   obtain⟨rfl,rfl,rfl⟩:=h
   obtain⟨hi,hvq⟩:=hv
   obtain⟨E1,m1,m2,cs,hyv,hyr⟩:=qG hat hM (hw y) (hk y)
   have hr1:after ρ l1 r=.mat e e2 ty ids xss v:=by rw[qK l1 ρ r hb3];exact hr
   obtain⟨g,g1,g2⟩:=m2.holds _ _ hwx hkx (by rw[hr1];rfl)
   rw[hr1] at g2
   have hid:=(m2.wf _ hwx).2 (by rw[hr1];rfl)
   rw[hr1] at hid
   have a8A:=wS _ _ _ hq cs _ hyr hvq
   obtain⟨E',n1,n2,n3,n4⟩:=b2h m1 hr1 hid g1 hi a8A
   exact⟨.skip,undef,_,E',CQ ho hb2 n4 g2 (by rw[hyv];exact a4q hq cs) n3 a8A,.inr ⟨rfl,rfl⟩,by rw[gU];exact n1,by rw[gU];exact m2.trans n2,trivial,trivial⟩
  ·rename_i r hx
   rw[hx] at hkx hwx
   split at h<;>first|(cases h;done)|skip
   rename_i k9 hr
   split at h<;>first|(cases h;done)|skip
   rename_i hb
   simp only[Bool.and_eq_true] at hb
   obtain⟨⟨hb1,hb2⟩,hb3⟩:=hb
   simp only[Option.some.injEq,Prod.mk.injEq] at h
   obtain⟨rfl,rfl,rfl⟩:=h
   obtain⟨b,g1,g2⟩:=hkx (by rw[hr];trivial)
   obtain⟨hok,hcells⟩:=one_cell hb1 (hk y) (fun r' ver e=>by rw[e] at hb2;exact AU hb2) hM
   obtain⟨E',n1,n2,n3⟩:=a8G hM hr g1 hb1 hok (hw y) (hk y)
   refine⟨.skip,undef,_,E',?_,.inr ⟨rfl,rfl⟩,n1,n2,trivial,trivial⟩
   simp only[execOp,ho,Sem.run_bind,g2,Instr.storeAt,Instr.sureAddr,Sem.run_pure,Result.andThen_ok]
   rw[UQ hb3 n3 hok hcells]
   rfl
 case makeSlice t n m =>
  simp only[a0l] at h
  split at h<;>first|(cases h;done)|skip
  rename_i kn a kb b r hn hm hd
  have hkn:=hk n
  have hkm:=hk m
  rw[hn] at hkn
  rw[hm] at hkm
  have hkn:=kY hkn
  have hkm:=kY hkm
  have hfew:∀ {e i},NM P e=true->P.info? e=some i->i.bytes<=100000:=fun {e i} h1 h2=>by
   unfold NM at h1
   rw[h2] at h1
   simpa using h1
  split at h<;>first|(cases h;done)|skip
  ·rename_i ty hty
   split at h<;>first|(cases h;done)|skip
   rename_i e hsb
   split at h<;>first|(cases h;done)|skip
   rename_i e2 c1e
   split at h<;>first|(cases h;done)|skip
   rename_i hb
   simp only[Bool.and_eq_true] at hb
   obtain⟨⟨⟨hrn,hst⟩,hfw⟩,hz⟩:=hb
   simp only[a4W,Option.some.injEq,Prod.mk.injEq] at h
   obtain⟨rfl,rfl,rfl⟩:=h
   obtain⟨hab,h0,hle,_⟩:=hv
   subst hab
   obtain⟨n9,rfl⟩:=Int.eq_ofNat_of_zero_le h0
   have hρ:=Res.lW hrn
   obtain⟨u1,u2,u3,u4,_⟩:=nO hsb
   obtain⟨i,z,c,z1,z2,z3,z4,z5⟩:=yG hz
   simp only[Ty.zc,Option.some.injEq] at z3
   subst z3
   have hrun:=run_make (w:=w) (n:=n9) (kl:=kn) (kc:=kb) u1 z1 z2 z5 (by rw[<-Array.length_toList,z4];rfl) u4 (hfew hfw z1) (by omega)
   rw[z4] at hrun
   have hLe:(List.replicate n9 [Value.slice none 0 0]).flatten=List.replicate n9 (Value.slice none 0 0):=by
    have:∀ m,(List.replicate m [Value.slice none 0 0]).flatten=List.replicate m (Value.slice none 0 0):=by
     intro m
     induction m with
     | zero=>rfl
     | succ m ih=>rw[List.replicate_succ,List.flatten_cons,ih,List.replicate_succ];rfl
    exact this n9
   obtain⟨w1,w2,w3⟩:=ER (w:=w) (e:=e) (n:=n9) (m:=1) (L:=(List.replicate n9 [Value.slice none 0 0]).flatten) (by rw[hLe];simp) (by omega) (fun u hu=>by
    rw[hLe] at hu
    rw[(List.mem_replicate.1 hu).2];exact IZ)
   have hsl:(E.vK r (some w.heap.size) (.slice (some ⟨w.heap.size,0,none⟩) n9 n9) (fun _=>.slice none 0 0)).sl r=.slice (some ⟨w.heap.size,0,none⟩) n9 n9:=aG _ _ _
   have hin:(E.vK r (some w.heap.size) (.slice (some ⟨w.heap.size,0,none⟩) n9 n9) (fun _=>.slice none 0 0)).inn r=fun _=>.slice none 0 0:=aG _ _ _
   have a2S:aW (α:=List ty.den) none (List.replicate n9 [])=List.range n9:=by simp[aW]
   obtain⟨m1,m2⟩:=hM.JD (w':=w.alloc (.cells ((List.replicate n9 [Value.slice none 0 0]).flatten).toArray e)) r (kQ.below w1 _) (some w.heap.size) (.slice (some ⟨w.heap.size,0,none⟩) n9 n9) (fun _=>.slice none 0 0) (.mat e e2 ty none (List.replicate n9 []) 0)
    ⟨by rw[hsl];show bW E.blk r _ r=_;rw[aG];rfl,hst,⟨_,by rw[hsl,a2S,List.length_range];exact w2,by
     rw[hin,a2S,hLe]
     apply List.ext_getElem?
     intro j
     rw[List.getElem?_map,List.getElem?_replicate]
     by_cases hj:j<n9
     ·rw[List.getElem?_range hj,if_pos hj];rfl
     ·rw[List.getElem?_eq_none (by simpa using hj),if_neg hj];rfl,by rw[hsl];exact w3⟩,fun x hx=>by
     rw[a2S] at hx
     simpa using hx,fun j _=>by rw[hin];rfl,fun j xs hj=>by
     rw[List.getElem?_replicate] at hj
     split at hj<;>first|(cases hj;done)|skip
     simp only[Option.some.injEq] at hj
     subst hj
     exact⟨[],by rw[hin];exact World.ownsRow_nil _ _ _ _,rfl,by rw[hin];intro g hg;cases hg⟩⟩ (fun q hq=>by
     rcases hq with hq|⟨j,hq⟩
     ·cases hq;exact .inr (Nat.le_refl _)
     ·cases hq) (fun q j _ hq=>by cases hq) (fun j j' q hq=>by cases hq) (fun j _=>rfl) (fun h=>by rw[hρ] at h;exact h.elim) (fun h=>by rw[hρ] at h;exact h.elim) (fun v h=>by rw[hρ] at h;exact h.elim) (fun v h=>by rw[hρ] at h;exact h.elim) (fun v h=>by rw[hρ] at h;exact h.elim) (fun _ k e=>by cases e)
   refine gG.of (s:=Instr.makeSlice t (ev n) (ev m)) (by simp only[execOp,ho]) ⟨_,_,_,by rw[hkn,hkm];exact hrun,m1,m2,?_,fun _=>hsl.symm⟩
   show Res.fB 0 (bW ρ r _ r)
   rw[aG]
   exact Nat.le_refl 0
  ·split at h<;>first|(cases h;done)|skip
   rename_i ty hty
   split at h<;>first|(cases h;done)|skip
   rename_i e hsb
   split at h<;>first|(cases h;done)|skip
   rename_i hb
   simp only[Bool.and_eq_true] at hb
   obtain⟨⟨⟨hrn,hst⟩,hfw⟩,hz⟩:=hb
   simp only[a4X,Option.some.injEq,Prod.mk.injEq] at h
   obtain⟨rfl,rfl,rfl⟩:=h
   obtain⟨hab,h0,hle,_⟩:=hv
   subst hab
   obtain⟨n9,rfl⟩:=Int.eq_ofNat_of_zero_le h0
   have hρ:=Res.lW hrn
   obtain⟨u1,u2,u3,u4,_⟩:=nO hsb
   obtain⟨i,z,c,z1,z2,z3,z4,z5⟩:=yG hz
   have hrc:∀ (F:Nat->Prop) (w:World),rep F w ty c ty.zero:=fun F w=>yF ty c z3
   have hcl:c.length=ty.n:=dZ _ _ _ (hrc (fun _=>True) w)
   have hrun:=run_make (w:=w) (n:=n9) (kl:=kn) (kc:=kb) u1 z1 z2 z5 (by rw[<-Array.length_toList,z4,hcl]) u4 (hfew hfw z1) (by omega)
   rw[z4] at hrun
   have hch:∀ (F:Nat->Prop) (w:World),chunks (rep F w ty) ((List.replicate n9 c).flatten) (List.replicate n9 ty.zero):=fun F w=>LV (hrc F w) n9
   obtain⟨w1,w2,w3⟩:=ER (w:=w) (e:=e) (n:=n9) (m:=ty.n) (L:=(List.replicate n9 c).flatten) (by
    have:=wR (fun c y=>dZ ty c y) _ _ (hch (fun _=>True) w)
    rw[this,List.length_replicate]) (by omega) (a7y hst (hch (fun _=>True) w))
   have hsl:(E.put r (some w.heap.size) (.slice (some ⟨w.heap.size,0,none⟩) n9 n9)).sl r=.slice (some ⟨w.heap.size,0,none⟩) n9 n9:=aG _ _ _
   obtain⟨m1,m2⟩:=hM.turn (w':=w.alloc (.cells ((List.replicate n9 c).flatten).toArray e)) r (kQ.below w1 _) (some w.heap.size) (.slice (some ⟨w.heap.size,0,none⟩) n9 n9) (.row e ty (List.replicate n9 ty.zero) 0)
    ⟨by rw[hsl];show bW E.blk r _ r=_;rw[aG];rfl,hst,_,by rw[hsl,List.length_replicate];exact w2,hch _ _,by rw[hsl];exact w3⟩ (.inr (.inr rfl)) rfl (fun k e=>by cases e) (fun h=>by rw[hρ] at h;exact h.elim) (fun h=>by rw[hρ] at h;exact h.elim) (fun v h=>by rw[hρ] at h;exact h.elim) (fun v h=>by rw[hρ] at h;exact h.elim) (fun v h=>h.elim)
   refine gG.of (s:=Instr.makeSlice t (ev n) (ev m)) (by simp only[execOp,ho]) ⟨_,_,_,by rw[hkn,hkm];exact hrun,m1,m2,?_,fun _=>hsl.symm⟩
   show Res.fB 0 (bW ρ r _ r)
   rw[aG]
   exact Nat.le_refl 0
end
end
end Go.Proofs.YtgplhbhfdgempaaGreat
