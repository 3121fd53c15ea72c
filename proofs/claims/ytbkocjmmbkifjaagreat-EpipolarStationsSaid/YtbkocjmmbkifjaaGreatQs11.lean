/-
  Lemmas for the theorem vstations28_holds, part 11 of 34.
-/
import Derived.Test.YtbkocjmmbkifjaaGreatQs10
namespace Go.Proofs.YtbkocjmmbkifjaaGreat
open Go Go.RowKit
theorem gy:type_of% @List.length_set:=@List.length_set
theorem ru:type_of% @List.length_map:=@List.length_map
theorem tq:type_of% @List.mem_singleton:=@List.mem_singleton
theorem qj:type_of% @List.map_congr_left:=@List.map_congr_left
theorem Eh:type_of% @List.getElem?_append_right:=@List.getElem?_append_right
theorem Bh:type_of% @List.length_replicate:=@List.length_replicate
section
set_option linter.unusedSimpArgs false
set_option linter.unusedVariables false
section
variable {P:Program} {E:Env} {ρ:Nat->Res} {W w:World}
theorem mJ (b:Nat):∀ (vs:List Value) (o:Nat) (w:World),(w.setCells b o vs).heap.size=w.heap.size/\(w.setCells b o vs).os=w.os/\(w.setCells b o vs).tape=w.tape/\(w.setCells b o vs).output=w.output/\∀ q,q≠b->(w.setCells b o vs).heap[q]?=w.heap[q]?:=by
 intro vs
 induction vs with
 | nil=>intro o w;exact⟨rfl,rfl,rfl,rfl,fun _ _=>rfl⟩
 | cons v vs ih =>
  intro o w
  obtain⟨h1,h2,h3,h4,h5⟩:=ih (o+1) (w.setCell ⟨b,o,none⟩ v)
  exact⟨h1.trans (by simp[World.setCell]),h2,h3,h4,fun q hq=>(h5 q hq).trans (Below.heap_setCell _ _ _ _ hq)⟩
theorem wG {S:Nat->Prop} {r j b:Nat} {cs vs:List Value} {e:TypeId} {o:Nat} (hS:S r) (hr:E.has r j b) (hb:w.heap[b]?=some (.cells cs.toArray e (0,0))) (hn:∀ v ∈ cs,dA v=true):jI E w (w.setCells b o vs) S:=by
 obtain⟨h1,h2,h3,h4,h5⟩:=mJ b vs o w
 refine⟨h2,h3,h4,by omega,fun q hq hne=>h5 q (fun e=>hne r j hS (by rw[e];exact hr)),fun q i n hc=>?_⟩
 by_cases e9:q=b
 ·subst e9
  rw[yu _ _ _ _ _ _ hb] at hc
  have:=hn (.int .u32 n) (by simp at hc;exact Cc hc)
  simp[dA] at this
 ·rw[<-hc]
  exact Dp (w:=w) (h5 q e9)
theorem owns_block {e:TypeId} {n m:Nat} {v:Value} {cs:List Value} (h:w.ownsRow 0 e n v m cs) {g:Nat} (hg:bI v=some g):∃ cap rest,v=.slice (some ⟨g,0,none⟩) m cap/\m<=cap/\cap<=maxLen/\w.heap[g]?=some (.cells (cs++rest).toArray e (0,0))/\(cs++rest).length=cap*n:=by
 rcases h.2 with⟨rfl,_⟩|⟨g',cap,cur,rfl,_,e3,e4,e5,e6,e7⟩
 ·cases hg
 ·cases hg
  refine⟨cap,cur.toList.drop (m*n),rfl,e4,e5,?_,?_⟩
  ·rw[<-e7,Ag,Array.toArray_toList];exact e3
  ·rw[<-e7,Ag,Array.length_toList];exact e6
theorem JD {e:TypeId} {n m g i:Nat} {v:Value} {cs ds:List Value} (h:w.ownsRow 0 e n v m cs) (hg:bI v=some g) (hi:i<m) (hl:ds.length=n) :
  (w.setCells g (i*n) ds).ownsRow 0 e n v m (cs.take (i*n)++ds++cs.drop (i*n+n)):=by
 obtain⟨cap,rest,rfl,h1,h2,h3,h4⟩:=owns_block h hg
 have hlen:=h.1
 have hb:i*n+n<=m*n:=by rw[<-Aa];exact oh _ hi
 have hh:=jA g ds (i*n) w (cs++rest) e h3 (by rw[jl];omega)
 have e1:(cs++rest).take (i*n)++ds++(cs++rest).drop (i*n+ds.length)=(cs.take (i*n)++ds++cs.drop (i*n+n))++rest:=by
  rw[hl,List.take_append_of_le_length (by omega),List.drop_append_of_le_length (by omega)]
  simp[wz]
 rw[e1] at hh
 have hln:(cs.take (i*n)++ds++cs.drop (i*n+n)).length=m*n:=by
  simp only[jl,ni,zl];omega
 refine⟨hln,.inr ⟨g,cap,_,rfl,uq _,hh,h1,h2,?_,?_⟩⟩
 ·rw[Cj,jl,hln,<-h4,jl];omega
 ·show List.take (m*n) _=_
  rw[<-hln]
  exact Ce
theorem ER {α:Type} {R:List Value->α->Prop} {n:Nat} (h:∀ c y,R c y->c.length=n) {ds:List Value} {x:α} (hd:R ds x):∀ (xs:List α) (cs:List Value) (i:Nat),chunks R cs xs->i<xs.length->chunks R (cs.take (i*n)++ds++cs.drop (i*n+n)) (xs.set i x)
 | [],cs,i,_,hi=>by simp at hi
 | y::ys,_,0,⟨c1,c2,h1,h2,h3⟩,_=>by
  rw[h1,Nat.zero_mul,List.take_zero,tu,<-h _ _ h2,Az]
  exact⟨ds,c2,rfl,hd,h3⟩
 | y::ys,_,i+1,⟨c1,c2,h1,h2,h3⟩,hi=>by
  have ih:=ER h hd ys c2 i h3 (by simpa using hi)
  refine⟨c1,_,?_,h2,ih⟩
  have hl:=h _ _ h2
  rw[h1,show (i+1)*n=c1.length+i*n by rw[Aa,hl,Ep],List.take_length_add_append,Nat.add_assoc,<-Dz,Az]
  simp[wz]
theorem QK {g o:Nat} {v:Value} {cs ds rest:List Value} {e:TypeId} (h:CAv cO w v) (hg:bI v=some g) (hb:w.heap[g]?=some (.cells (cs++rest).toArray e (0,0))) (hl:o+ds.length<=(cs++rest).length) (hd:∀ u ∈ ds,cO u=true):CAv cO (w.setCells g o ds) v:=by
 intro g' hg'
 have e9:g'=g:=by
  have:=(lJ v).symm.trans hg
  rw[hg'] at this
  cases this;rfl
 subst e9
 have hold:=CA.cells hb (h g' hg')
 refine CA.of_cells (jA g' ds o w _ e hb hl) (fun u hu=>?_)
 simp only[um] at hu
 rcases hu with(hu|hu)|hu
 ·exact hold u (Ak hu)
 ·exact hd u hu
 ·exact hold u (List.mem_of_mem_drop hu)
theorem DC {e:TypeId} {n m g i:Nat} {v:Value} {cs:List Value} (h:w.ownsRow 0 e n v m cs) (hg:bI v=some g) (hi:i<m):w.there g (i*n) n:=by
 obtain⟨cap,rest,rfl,h1,h2,h3,h4⟩:=owns_block h hg
 have hlen:=h.1
 have hb:i*n+n<=m*n:=by rw[<-Aa];exact oh _ hi
 intro j hj
 refine⟨?_,by simp[World.frozen?,h3]⟩
 rw[yu _ _ _ _ _ _ h3]
 have:i*n+j<(cs++rest).length:=by rw[jl];omega
 simp only[List.getElem?_toArray]
 rw[jc this];rfl
theorem uF {e:TypeId} {g:Nat} {v:Value} {cs rest:List Value} (h:CAv cO w v) (hg:bI v=some g) (hb:w.heap[g]?=some (.cells (cs++rest).toArray e (0,0))):∀ u ∈ cs++rest,dA u=true:=fun u hu=>by
 have:=CA.cells hb (h g ((lJ v).symm.trans hg)) u (by simpa using hu)
 simp only[cO,au] at this
 exact this.2
theorem b5n {r v i g:Nat} {e:TypeId} {ty:Ty} {xs:List ty.den} {x:ty.den} {ds:List Value} (hM:Mem E ρ W w) (hr:ρ r=.row e ty xs v) (hg:bI (E.sl r)=some g) (hi:i<xs.length) (hd:rep (fz w E) w ty ds x) :
  Mem (E.put r (E.blk r) (E.sl r)) (bH ρ r (.row e ty (xs.set i x) v)) W (w.setCells g (i*ty.n) ds)/\Ext E ρ w (E.put r (E.blk r) (E.sl r)) (bH ρ r (.row e ty (xs.set i x) v)) (w.setCells g (i*ty.n) ds)/\w.there g (i*ty.n) ds.length/\ty.still=true:=by
 have h1:=hM.res r
 rw[hr] at h1
 obtain⟨k1,k2,cs,k3,k4,k5,k6n⟩:=h1
 have hl:=dI _ _ _ hd
 obtain⟨cap,rest,e1,e2,e3,e4,e5⟩:=owns_block k3 hg
 have hgo:=wG (S:=fun q=>q=r) (vs:=ds) (o:=i*ty.n) rfl (show E.has r 0 g from k1.trans hg) e4 (uF k5 hg e4)
 have hb9:E.blk r=none\/E.blk r=E.blk r\/E.blk r=some w.heap.size:=.inr (.inl rfl)
 have hF:=zG (ρ:=ρ) (w':=w.setCells g (i*ty.n) ds) (E:=E) (r:=r) (s:=E.sl r) hgo.size hb9
 have a0v:i*ty.n+ds.length<=(cs++rest).length:=by
  have:=k3.1
  have hb:i*ty.n+ty.n<=xs.length*ty.n:=by rw[<-Aa];exact oh _ hi
  rw[jl];omega
 obtain⟨m1,m2⟩:=hM.turn (w':=w.setCells g (i*ty.n) ds) r hgo (E.blk r) (E.sl r) (.row e ty (xs.set i x) v)
  ⟨by show bH E.blk r _ r=bI (bH E.sl r _ r);rw[aG,aG];exact k1,k2,_,by show World.ownsRow _ _ _ _ (bH E.sl r _ r) _ _;rw[aG,gy];exact JD k3 hg hi hl,aW (fun c y=>bW hF hgo.stay ty c y) _ _ (ER (fun c y=>dI ty c y) hd _ _ i k4 hi),by
   show CAv _ _ (bH E.sl r _ r)/\nnS _ (bH E.sl r _ r);rw[aG];exact⟨QK k5 hg e4 a0v (xR ty k2 _ _ hd),k6n⟩⟩
  hb9 rfl (fun k e=>by cases e) (fun h=>by rw[hr] at h;exact h.elim) (fun h=>by rw[hr] at h;exact h.elim) (fun v' h=>by rw[hr] at h;exact h) (fun v' h h'=>by
   refine⟨by rw[hr];exact h',rfl,by rw[hr];rfl⟩) (fun v h=>h.elim)
 exact⟨m1,m2,by rw[hl];exact DC k3 hg hi,k2⟩
theorem b4N {r v id i g:Nat} {e e2:TypeId} {ty:Ty} {ids:Option (List Nat)} {xss:List (List ty.den)} {x:ty.den} {ds:List Value} (hM:Mem E ρ W w) (hr:ρ r=.mat e e2 ty ids xss v) (hid:id<xss.length) (hg:bI (E.inn r id)=some g) (hi:i<(rowAt xss id).length) (hd:rep (fz w E) w ty ds x) :
  ∃ E',Mem E' (bH ρ r (.mat e e2 ty ids (xss.set id ((rowAt xss id).set i x)) v)) W (w.setCells g (i*ty.n) ds)/\Ext E ρ w E' (bH ρ r (.mat e e2 ty ids (xss.set id ((rowAt xss id).set i x)) v)) (w.setCells g (i*ty.n) ds)/\w.there g (i*ty.n) ds.length/\ty.still=true:=by
 have h1:=hM.res r
 rw[hr] at h1
 obtain⟨k1,k2,⟨cs0,k3,k4,k5⟩,k6,k7,k8⟩:=h1
 obtain⟨cs,q1,q2,q3⟩:=mG hM hr hid
 have hl:=dI _ _ _ hd
 obtain⟨cap,rest,e1,e2',e3,e4,e5⟩:=owns_block q1 hg
 have hhas:E.has r (id+1) g:=hg
 have hgo:=wG (S:=fun q=>q=r) (vs:=ds) (o:=i*ty.n) rfl hhas e4 (uF q3 hg e4)
 have hF:∀ q,fz w E q->fz (w.setCells g (i*ty.n) ds) (E.rC r (E.blk r) (E.sl r) (E.inn r)) q:=sZ (S:=fun q=>q=r) hgo.size rfl (fun q hq=>⟨aQ _ _ hq,aQ _ _ hq⟩) (fun r' j q e hh=>by
  subst e
  rw[mD,jm rfl] at hh
  cases j with
  | zero=>exact .inl ⟨r',0,hh⟩
  | succ j=>exact .inl ⟨r',j+1,hh⟩)
 have a0v:i*ty.n+ds.length<=(cs++rest).length:=by
  have:=q1.1
  have hb:i*ty.n+ty.n<=(rowAt xss id).length*ty.n:=by rw[<-Aa];exact oh _ hi
  rw[jl];omega
 have hne:∀ j q,E.has r j q->j≠id+1->(w.setCells g (i*ty.n) ds).heap[q]?=w.heap[q]?:=fun j q hh hj=>(mJ g ds _ w).2.2.2.2 q (fun e=>hj ((hM.inj _ _ _ _ _ hh (by subst e;exact hhas)).2))
 have hlen:(bJ ids (xss.set id ((rowAt xss id).set i x)))=bJ ids xss:=by
  cases ids with
  | none=>simp[bJ]
  | some l=>rfl
 have zJ:(E.rC r (E.blk r) (E.sl r) (E.inn r)).inn r=E.inn r:=aG _ _ _
 have hsl:(E.rC r (E.blk r) (E.sl r) (E.inn r)).sl r=E.sl r:=aG _ _ _
 have hx:lT (E.rC r (E.blk r) (E.sl r) (E.inn r)) (w.setCells g (i*ty.n) ds) r (.mat e e2 ty ids (xss.set id ((rowAt xss id).set i x)) v):=by
  have hb0:∀ b,bI (E.sl r)=some b->(w.setCells g (i*ty.n) ds).heap[b]?=w.heap[b]?:=fun b hb=>hne 0 b (k1.trans hb) (by simp)
  refine⟨by rw[hsl];show bH E.blk r _ r=_;rw[aG];exact k1,k2,⟨cs0,?_,by rw[zJ,hlen];exact k4,by rw[hsl];exact iT k5 hb0⟩,by rw[hlen,gy];exact k6,by rw[zJ,gy];exact k7,fun j ys hj=>?_⟩
  ·rw[hsl,hlen];exact dS k3 hb0
  ·rw[zJ]
   rw[List.getElem?_set] at hj
   split at hj
   ·rename_i ej
    subst ej
    simp only[hid,Dl,ak] at hj
    subst hj
    exact⟨_,by rw[gy];exact JD q1 hg hi hl,aW (fun c y=>bW hF hgo.stay ty c y) _ _ (ER (fun c y=>dI ty c y) hd _ _ i q2 hi),QK q3 hg e4 a0v (xR ty k2 _ _ hd)⟩
   ·rename_i ej
    obtain⟨cs9,r1,r2,r3⟩:=k8 j ys hj
    have hb1:∀ b,bI (E.inn r j)=some b->(w.setCells g (i*ty.n) ds).heap[b]?=w.heap[b]?:=fun b hb=>hne (j+1) b hb (by omega)
    exact⟨cs9,dS r1 hb1,aW (fun c y=>bW hF hgo.stay ty c y) _ _ r2,iT r3 hb1⟩
 obtain⟨m1,m2⟩:=hM.EM (w':=w.setCells g (i*ty.n) ds) r hgo (E.blk r) (E.sl r) (E.inn r) _ hx (fun q hq=>.inl (by
   rcases hq with hq|⟨j,hq⟩
   ·exact⟨0,hq⟩
   ·exact⟨j+1,hq⟩)) (fun q j h1 h2=>by have:=(hM.inj r 0 r (j+1) q h1 h2).2;omega) (fun j j' q h1 h2=>by have:=(hM.inj r (j+1) r (j'+1) q h1 h2).2;omega) (fun j hj=>hM.inner r j (by rw[hr];simpa [Res.cnt] using hj))
  (fun h=>by rw[hr] at h;exact h.elim) (fun h=>by rw[hr] at h;exact h.elim) (fun v' h=>by rw[hr] at h;exact h) (fun v' h h'=>⟨by rw[hr];exact h',rfl,by rw[hr];rfl⟩) (fun v' h h'=>⟨by rw[hr];exact h',by rw[hr];rfl,by rw[hr];simp[Res.cnt],fun _ _=>rfl⟩) (fun _ k e=>by cases e)
 exact⟨_,m1,m2,by rw[hl];exact DC q1 hg hi,k2⟩
theorem a2T {α:Type} (cs:List α) (i:Nat) (u:α) (h:i<cs.length):cs.take (i*1)++[u]++cs.drop (i*1+1)=cs.set i u:=by
 rw[Nat.mul_one,List.set_eq_take_append_cons_drop,jm h]
 simp
theorem JQ {p:Option Addr} {n c:Nat}:cO (.slice p n c)=true:=by simp[cO,dA,Value.oneCell']
theorem a5Y {F:Nat->Prop} {e:TypeId} {t:Ty} {v:Value} {xs:List t.den} {cs:List Value} (h:w.ownsRow 0 e t.n v xs.length cs) (hc:chunks (rep F w t) cs xs):rep (fun _=>True) w (.list t) [v] xs:=by
 obtain⟨ds,e1,e2⟩:=jX (E:=⟨fun _=>none,fun _=>undef,fun _=>True,fun _ _=>undef,fun _=>False,fun _=>undef⟩) (F:=fun _=>True) h (aW (fun c y=>bW (fun _ _=>trivial) ⟨fun _ _=>rfl,fun _ _ _ h=>h,ay _⟩ t c y) _ _ hc) (fun _ _=>trivial)
 obtain⟨p,c,e3,e4⟩:=e2
 have:v=.slice p xs.length c:=by rw[e1,e3];rfl
 exact⟨p,c,by rw[this],e4⟩
theorem b7C {r v id i g:Nat} {e e2:TypeId} {ty:Ty} {ids:Option (List Nat)} {xss:List (List ty.den)} (hM:Mem E ρ W w) (hr:ρ r=.mat e e2 ty ids xss v) (hid:id<xss.length) (hg:bI (E.sl r)=some g) (hi:i<aN ids xss) :
  ∃ E',Mem E' (bH ρ r (.mat e e2 ty (some ((bJ ids xss).set i id)) xss v)) W (w.setCells g (i*1) [E.inn r id])/\Ext E ρ w E' (bH ρ r (.mat e e2 ty (some ((bJ ids xss).set i id)) xss v)) (w.setCells g (i*1) [E.inn r id])/\w.there g (i*1) 1:=by
 have h1:=hM.res r
 rw[hr] at h1
 obtain⟨k1,k2,⟨cs0,k3,k4,k5⟩,k6,k7,k8⟩:=h1
 rw[<-zB] at hi
 obtain⟨cap,rest,e1,e2',e3,e4,e5⟩:=owns_block k3 hg
 have hhas:E.has r 0 g:=k1.trans hg
 have hgo:=wG (S:=fun q=>q=r) (vs:=[E.inn r id]) (o:=i*1) rfl hhas e4 (uF k5 hg e4)
 have hF:∀ q,fz w E q->fz (w.setCells g (i*1) [E.inn r id]) (E.rC r (E.blk r) (E.sl r) (E.inn r)) q:=sZ (S:=fun q=>q=r) hgo.size rfl (fun q hq=>⟨aQ _ _ hq,aQ _ _ hq⟩) (fun r' j q e hh=>by
  subst e
  rw[mD,jm rfl] at hh
  cases j with
  | zero=>exact .inl ⟨r',0,hh⟩
  | succ j=>exact .inl ⟨r',j+1,hh⟩)
 have hcl:i<cs0.length:=by rw[k4,ru];exact hi
 have a0v:i*1+[E.inn r id].length<=(cs0++rest).length:=by
  rw[jl];simp only[List.length_singleton];omega
 have hne:∀ j q,E.has r j q->j≠0->(w.setCells g (i*1) [E.inn r id]).heap[q]?=w.heap[q]?:=fun j q hh hj=>(mJ g _ _ w).2.2.2.2 q (fun e=>hj ((hM.inj _ _ _ _ _ hh (by subst e;exact hhas)).2))
 have zJ:(E.rC r (E.blk r) (E.sl r) (E.inn r)).inn r=E.inn r:=aG _ _ _
 have hsl:(E.rC r (E.blk r) (E.sl r) (E.inn r)).sl r=E.sl r:=aG _ _ _
 have hok:∀ u ∈ [E.inn r id],cO u=true:=fun u hu=>by
  obtain⟨cs,q1,_⟩:=mG hM hr hid
  obtain⟨p,c,e1⟩:=qB q1
  rw[tq.1 hu,e1];exact JQ
 have hx:lT (E.rC r (E.blk r) (E.sl r) (E.inn r)) (w.setCells g (i*1) [E.inn r id]) r (.mat e e2 ty (some ((bJ ids xss).set i id)) xss v):=by
  refine⟨by rw[hsl];show bH E.blk r _ r=_;rw[aG];exact k1,k2,⟨cs0.set i (E.inn r id),?_,?_,by rw[hsl];exact QK k5 hg e4 a0v hok⟩,fun x hx=>?_,by rw[zJ];exact k7,fun j ys hj=>?_⟩
  ·rw[hsl]
   have:=JD (ds:=[E.inn r id]) k3 hg hi rfl
   rw[a2T _ _ _ hcl] at this
   simpa [bJ] using this
  ·rw[zJ,k4]
   simp only[bJ]
   rw[List.map_set]
  ·rcases List.mem_or_eq_of_mem_set hx with hx|rfl
   ·exact k6 x hx
   ·exact hid
  ·rw[zJ]
   obtain⟨cs9,r1,r2,r3⟩:=k8 j ys hj
   have hb1:∀ b,bI (E.inn r j)=some b->(w.setCells g (i*1) [E.inn r id]).heap[b]?=w.heap[b]?:=fun b hb=>hne (j+1) b hb (by omega)
   exact⟨cs9,dS r1 hb1,aW (fun c y=>bW hF hgo.stay ty c y) _ _ r2,iT r3 hb1⟩
 obtain⟨m1,m2⟩:=hM.EM (w':=w.setCells g (i*1) [E.inn r id]) r hgo (E.blk r) (E.sl r) (E.inn r) _ hx (fun q hq=>.inl (by
   rcases hq with hq|⟨j,hq⟩
   ·exact⟨0,hq⟩
   ·exact⟨j+1,hq⟩)) (fun q j h1 h2=>by have:=(hM.inj r 0 r (j+1) q h1 h2).2;omega) (fun j j' q h1 h2=>by have:=(hM.inj r (j+1) r (j'+1) q h1 h2).2;omega) (fun j hj=>hM.inner r j (by rw[hr];simpa [Res.cnt] using hj))
  (fun h=>by rw[hr] at h;exact h.elim) (fun h=>by rw[hr] at h;exact h.elim) (fun v' h=>by rw[hr] at h;exact h) (fun v' h h'=>⟨by rw[hr];exact h',rfl,by rw[hr];rfl⟩) (fun v' h h'=>⟨by rw[hr];exact h',by rw[hr];rfl,by rw[hr];exact ay _,fun _ _=>rfl⟩) (fun _ k e=>by cases e)
 exact⟨_,m1,m2,DC (n:=1) k3 hg hi⟩
theorem b7B {r r2 v v2 i g:Nat} {e e2:TypeId} {ty:Ty} {ids:Option (List Nat)} {xss:List (List ty.den)} {ys:List ty.den} (hM:Mem E ρ W w) (hr:ρ r=.mat e e2 ty ids xss v) (hr2:ρ r2=.row e2 ty ys v2) (hne:r2≠r) (hg:bI (E.sl r)=some g) (hi:i<aN ids xss) :
  ∃ E',Mem E' (bH (bH ρ r (.mat e e2 ty (some ((bJ ids xss).set i xss.length)) (xss++[ys]) v)) r2 (.row e2 ty [] (nx v2))) W (w.setCells g (i*1) [E.sl r2])/\Ext E ρ w E' (bH (bH ρ r (.mat e e2 ty (some ((bJ ids xss).set i xss.length)) (xss++[ys]) v)) r2 (.row e2 ty [] (nx v2))) (w.setCells g (i*1) [E.sl r2])/\w.there g (i*1) 1:=by
 have h1:=hM.res r
 rw[hr] at h1
 obtain⟨k1,k2,⟨cs0,k3,k4,k5⟩,k6,k7,k8⟩:=h1
 have h2:=hM.res r2
 rw[hr2] at h2
 obtain⟨p1,p2,cs2,p3,p4,p5,_⟩:=h2
 rw[<-zB] at hi
 obtain⟨cap,rest,e1,e2',e3,e4,e5⟩:=owns_block k3 hg
 have hhas:E.has r 0 g:=k1.trans hg
 have hgo:=wG (S:=fun q=>q=r\/q=r2) (vs:=[E.sl r2]) (o:=i*1) (.inl rfl) hhas e4 (uF k5 hg e4)
 let w':=w.setCells g (i*1) [E.sl r2]
 let E':Env:=(E.rC r (E.blk r) (E.sl r) (bH (E.inn r) xss.length (E.sl r2))).put r2 none (.slice none 0 0)
 have hcl:i<cs0.length:=by rw[k4,ru];exact hi
 have a0v:i*1+[E.sl r2].length<=(cs0++rest).length:=by
  rw[jl];simp only[List.length_singleton];omega
 have hnr:r≠r2:=fun e=>hne e.symm
 have a1X:E'.blk r=E.blk r:=by show bH (bH E.blk r _) r2 _ r=_;rw[aQ _ _ hnr,aG]
 have a0t:E'.sl r=E.sl r:=by show bH (bH E.sl r _) r2 _ r=_;rw[aQ _ _ hnr,aG]
 have yK:E'.inn r=bH (E.inn r) xss.length (E.sl r2):=by show bH (bH E.inn r _) r2 _ r=_;rw[aQ _ _ hnr,aG]
 have a0:E'.blk r2=none:=aG _ _ _
 have RX:E'.sl r2=.slice none 0 0:=aG _ _ _
 have b0:E'.inn r2=fun _=>undef:=aG _ _ _
 have hE:∀ q,¬ (q=r\/q=r2)->E'.blk q=E.blk q/\E'.sl q=E.sl q/\E'.inn q=E.inn q/\(bH (bH ρ r (.mat e e2 ty (some ((bJ ids xss).set i xss.length)) (xss++[ys]) v)) r2 (.row e2 ty [] (nx v2))) q=ρ q:=fun q hq=>by
  have n1:q≠r:=fun e=>hq (.inl e)
  have n2:q≠r2:=fun e=>hq (.inr e)
  exact⟨(aQ _ _ n2).trans (aQ _ _ n1),(aQ _ _ n2).trans (aQ _ _ n1),(aQ _ _ n2).trans (aQ _ _ n1),(aQ _ _ n2).trans (aQ _ _ n1)⟩
 have a0x:∀ j b,¬ E'.has r2 j b:=fun j b hh=>by
  cases j with
  | zero=>have hh:E'.blk r2=some b:=hh;rw[a0] at hh;cases hh
  | succ j=>have hh:bI (E'.inn r2 j)=some b:=hh;rw[b0] at hh;cases hh
 have hmap:∀ j b,E'.has r j b->(j=xss.length+1/\E.has r2 0 b)\/(j≠xss.length+1/\E.has r j b):=fun j b hh=>by
  cases j with
  | zero=>exact .inr ⟨by omega,by show E.blk r=some b;rw[<-a1X];exact hh⟩
  | succ j =>
   have hh:bI (E'.inn r j)=some b:=hh
   rw[yK] at hh
   by_cases ej:j=xss.length
   ·subst ej
    rw[aG] at hh
    exact .inl ⟨rfl,p1.trans hh⟩
   ·rw[aQ _ _ ej] at hh
    exact .inr ⟨by omega,hh⟩
 have hF:∀ q,fz w E q->fz w' E' q:=sZ (S:=fun q=>q=r\/q=r2) hgo.size rfl (fun q hq=>⟨(hE q hq).1,(hE q hq).2.2.1⟩) (fun r' j q e hh=>by
  rcases e with rfl|rfl
  ·rcases hmap j q hh with⟨_,h⟩|⟨_,h⟩
   ·exact .inl ⟨_,_,h⟩
   ·exact .inl ⟨_,_,h⟩
  ·exact(a0x j q hh).elim)
 have hnb:∀ r' j q,E.has r' j q->(r'≠r\/j≠0)->w'.heap[q]?=w.heap[q]?:=fun r' j q hh hj=>(mJ g _ _ w).2.2.2.2 q (fun e=>by
  have:=hM.inj _ _ _ _ _ hh (by subst e;exact hhas)
  rcases hj with hj|hj
  ·exact hj this.1
  ·exact hj this.2)
 have hok:∀ u ∈ [E.sl r2],cO u=true:=fun u hu=>by
  obtain⟨p,c,e1⟩:=qB p3
  rw[tq.1 hu,e1];exact JQ
 have KZ:(bH (bH ρ r (.mat e e2 ty (some ((bJ ids xss).set i xss.length)) (xss++[ys]) v)) r2 (.row e2 ty [] (nx v2))) r=.mat e e2 ty (some ((bJ ids xss).set i xss.length)) (xss++[ys]) v:=(aQ _ _ hnr).trans (aG _ _ _)
 have zK:(bH (bH ρ r (.mat e e2 ty (some ((bJ ids xss).set i xss.length)) (xss++[ys]) v)) r2 (.row e2 ty [] (nx v2))) r2=.row e2 ty [] (nx v2):=aG _ _ _
 have hx:lT E' w' r (.mat e e2 ty (some ((bJ ids xss).set i xss.length)) (xss++[ys]) v):=by
  refine⟨by rw[a0t,a1X];exact k1,k2,⟨cs0.set i (E.sl r2),?_,?_,by rw[a0t];exact QK k5 hg e4 a0v hok⟩,fun x hx=>?_,fun j hj=>?_,fun j zs hj=>?_⟩
  ·rw[a0t]
   have:=JD (ds:=[E.sl r2]) k3 hg hi rfl
   rw[a2T _ _ _ hcl] at this
   show w'.ownsRow 0 e 1 (E.sl r) ((bJ ids xss).set i xss.length).length _
   rw[gy]
   exact this
  ·rw[yK,k4]
   simp only[bJ]
   rw[List.map_set,aG]
   congr 1
   refine qj (fun x hx=>?_)
   have:=k6 x hx
   rw[aQ _ _ (by omega)]
  ·rw[jl]
   rcases List.mem_or_eq_of_mem_set hx with hx|rfl
   ·have:=k6 x hx;simp;omega
   ·simp
  ·rw[jl,List.length_singleton] at hj
   rw[yK,aQ _ _ (by omega)]
   exact k7 j (by omega)
  ·rw[yK]
   by_cases ej:j=xss.length
   ·subst ej
    rw[Eh (ay _),Nat.sub_self] at hj
    cases hj
    rw[aG]
    have hb1:∀ b,bI (E.sl r2)=some b->w'.heap[b]?=w.heap[b]?:=fun b hb=>hnb r2 0 b (p1.trans hb) (.inl hne)
    exact⟨cs2,dS p3 hb1,aW (fun c y=>bW hF hgo.stay ty c y) _ _ p4,iT p5 hb1⟩
   ·have hj2:xss[j]?=some zs:=by
     by_cases hjl:j<xss.length
     ·rwa [Ap hjl] at hj
     ·rw[xg (by rw[jl,List.length_singleton];omega)] at hj;cases hj
    rw[aQ _ _ ej]
    obtain⟨cs9,r1,r2,r3⟩:=k8 j zs hj2
    have hb1:∀ b,bI (E.inn r j)=some b->w'.heap[b]?=w.heap[b]?:=fun b hb=>hnb r (j+1) b hb (.inr (by omega))
    exact⟨cs9,dS r1 hb1,aW (fun c y=>bW hF hgo.stay ty c y) _ _ r2,iT r3 hb1⟩
 have hx2:lT E' w' r2 (.row e2 ty [] (nx v2)):=by
  refine⟨by rw[a0,RX];rfl,p2,[],by rw[RX];exact Bd _ _ _ _,rfl,by rw[RX];exact⟨fun g hg=>(by cases hg),a5P _ _⟩⟩
 obtain⟨m1,m2⟩:=hM.turns (E':=E') (w':=w') (fun q=>q=r\/q=r2) hgo hE rfl rfl rfl (fun r' j b e hh=>by
   rcases e with rfl|rfl
   ·rcases hmap j b hh with⟨_,h⟩|⟨_,h⟩
    ·exact .inl ⟨_,_,.inr rfl,h⟩
    ·exact .inl ⟨_,_,.inl rfl,h⟩
   ·exact(a0x j b hh).elim) (fun r' j r'' j' b e' e'' hh hh'=>by
   rcases e' with rfl|rfl
   ·rcases e'' with rfl|rfl
    ·refine⟨rfl,?_⟩
     rcases hmap j b hh with⟨q1,q2⟩|⟨q1,q2⟩<;>rcases hmap j' b hh' with⟨q3,q4⟩|⟨q3,q4⟩
     ·omega
     ·exact absurd (hM.inj _ _ _ _ _ q2 q4).1 hne
     ·exact absurd (hM.inj _ _ _ _ _ q4 q2).1 hne
     ·exact(hM.inj _ _ _ _ _ q2 q4).2
    ·exact(a0x j' b hh').elim
   ·exact(a0x j b hh).elim) (fun r' i' e' hc=>by
   rcases e' with rfl|rfl
   ·rw[KZ] at hc
    have hc:(xss++[ys]).length<=i':=hc
    rw[jl,List.length_singleton] at hc
    rw[yK,aQ _ _ (by omega)]
    exact k7 i' (by omega)
   ·rw[b0];rfl) (fun r' e' h=>by rcases e' with rfl|rfl<;>first|(rw[hr] at h;exact h.elim)|(rw[hr2] at h;exact h.elim)) (fun r' e' h=>by rcases e' with rfl|rfl<;>first|(rw[hr] at h;exact h.elim)|(rw[hr2] at h;exact h.elim)) (fun r' v' e' h=>by
   rcases e' with rfl|rfl
   ·rw[hr] at h;rw[KZ];exact h
   ·rw[hr2] at h;rw[zK];exact iq h (a2q _)) (fun r' v' e' h h'=>by
   rcases e' with rfl|rfl
   ·rw[KZ] at h' ⊢;exact⟨by rw[hr];exact h',a0t,by rw[hr];rfl⟩
   ·rw[hr2] at h;rw[zK] at h'
    have h:v'<=v2:=h
    have h':gv (nx v2)=gv v':=h'
    have:=IC h
    have:=XK v2
    omega) (fun r' v' e' h h'=>by
   rcases e' with rfl|rfl
   ·rw[KZ] at h' ⊢
    refine⟨by rw[hr];exact h',by rw[hr];rfl,by rw[hr];simp[Res.cnt],fun i' hi'=>?_⟩
    rw[hr] at hi'
    have hi':i'<xss.length:=hi'
    rw[yK,aQ _ _ (by omega)]
   ·rw[zK] at h';exact h'.elim) (fun r' e'=>by
   rcases e' with rfl|rfl
   ·rw[KZ];exact hx
   ·rw[zK];exact hx2) (fun _ r' k e' h=>by
   rcases e' with rfl|rfl
   ·rw[KZ] at h;cases h
   ·rw[zK] at h;cases h)
 exact⟨E',m1,m2,DC (n:=1) k3 hg hi⟩
end
end
section
set_option linter.unusedSimpArgs false
set_option linter.unusedVariables false
def BA (v:Nat):Res->Bool
 | .row _ _ _ v'=>gv v'==gv v
 | .fro _ _ v'=>gv v'==gv v
 | .mat _ _ _ _ _ v'=>gv v'==gv v
 | _=>false
theorem uH {v:Nat} {x:Res} (h:BA v x=true):Res.isRow v x:=by cases x<;>simp_all [BA,Res.isRow]
def b4H (P:Program) (t:TypeId):Bool:=rM P t==some false&&(P.info? t).map (·.size)==some 1
def ownB (ρ:Nat->Res):K->Bool
 | .own r v=>BA v (ρ r)
 | _=>true
def c3l (r:Nat) (l:List (Nat × Res)):Bool:=l.all fun q=>q.1 != r
def setRow (r v i:Nat) (e:TypeId) (ty:Ty) (xs:List ty.den) (x:ty.den) (vc:List Cd) (l:List (Nat × Res)):MK:=some (([i<xs.length]:List Cd)++vc,.any,l++[(r,.row e ty (xs.set i x) v)])
def setPos (r v id i:Nat) (e e2:TypeId) (ty:Ty) (ids:Option (List Nat)) (xss:List (List ty.den)) (x:ty.den) (vc:List Cd) (l:List (Nat × Res)):MK:=some (([i<(rowAt xss id).length]:List Cd)++vc,.any,l++[(r,.mat e e2 ty ids (xss.set id ((rowAt xss id).set i x)) v)])
def b6v (r v id i:Nat) (e e2:TypeId) (ty:Ty) (ids:Option (List Nat)) (xss:List (List ty.den)):MK:=some ([i<aN ids xss],.any,[(r,.mat e e2 ty (some ((bJ ids xss).set i id)) xss v)])
def b6u (r r2 v v2 i:Nat) (e e2:TypeId) (ty:Ty) (ids:Option (List Nat)) (xss:List (List ty.den)) (ys:List ty.den):MK:=some ([i<aN ids xss],.any,[(r,.mat e e2 ty (some ((bJ ids xss).set i xss.length)) (xss++[ys]) v),(r2,.row e2 ty [] (nx v2))])
def a5N (r:Nat) (e:TypeId) (ty:Ty) (a b:Int):MK:=some ([a=b,0<=a,a<=1000000000],.own r 0,[(r,.row e ty (List.replicate a.toNat ty.zero) 0)])
def a5M (r:Nat) (e e2:TypeId) (ty:Ty) (a b:Int):MK:=some ([a=b,0<=a,a<=1000000000],.own r 0,[(r,.mat e e2 ty none (List.replicate a.toNat []) 0)])
def c2A (P:Program) (T:Told) (t:TypeId):Option Ty:=match P.underlying t with
 | some (.slice e)=>T.ty e
 | _=>none
def a1o (P:Program) (T:Told) (ρ:Nat->Res) (k:Operand->K) (d:Option Nat):Op->MK
 | .store t x y=>match k x with
  | .cell r v i=>match ρ r with
   | .row e ty xs v'=>match vJ ρ (some ty) (k y) with
    | some (p,l)=>match jL p.t ty with
     | some q=>if gv v==gv v'&&fitsT P t ty&&c3l r l then setRow r v' i e ty xs (q.f p.x) (q.c p.x) l else none
     | none=>none
    | none=>none
   | .mat e e2 ty ids xss v'=>match k y with
    | .mrow r' vv id=>if r==r'&&gv v==gv v'&&vv==v'&&fitsT P t (.list ty) then b6v r v' id i e e2 ty ids xss else none
    | .own r2 v2=>match ρ r2 with
     | .row e2' ty' ys v2'=>match fU (.list ty') (.list ty) ys with
      | some zs=>if r2 != r&&gv v==gv v'&&gv v2==gv v2'&&e2'==e2&&fitsT P t (.list ty) then b6u r r2 v' v2' i e e2 ty ids xss zs else none
      | none=>none
     | _=>none
    | _=>none
   | _=>none
  | .mpos r v id i=>match ρ r with
   | .mat e e2 ty ids xss v'=>match vJ ρ (some ty) (k y) with
    | some (p,l)=>match jL p.t ty with
     | some q=>if v==v'&&fitsT P t ty&&c3l r l then setPos r v id i e e2 ty ids xss (q.f p.x) (q.c p.x) l else none
     | none=>none
    | none=>none
   | _=>none
  | .lQ r=>match ρ r with
   | .kF _=>if (k y).one&&ownB ρ (k y)&&b4H P t then some ([],.any,[(r,.kF (k y))]) else none
   | _=>none
  | _=>none
 | .makeSlice t n m=>match k n,k m,d with
  | .val (.int _) a,.val (.int _) b,some r=>match T.mt r with
   | some ty=>match sliceB P t (.list ty) 0 with
    | some e=>match sliceB P e ty 0 with
     | some e2=>if (ρ r).isNone&&ty.still&&DV P e&&ZL P e (.list ty) then a5M r e e2 ty a b else none
     | none=>none
    | none=>none
   | none=>match c2A P T t with
    | some ty=>match sliceB P t ty 0 with
     | some e=>if (ρ r).isNone&&ty.still&&DV P e&&ZL P e ty then a5N r e ty a b else none
     | none=>none
    | none=>none
  | _,_,_=>none
 | _=>none
section
variable {P:Program} {E:Env} {ρ:Nat->Res} {W w:World}
theorem a5c {a b:Ty} {q:Coe a b} (h:jL a b=some q) (cs:List Value):a.toV cs=b.toV cs:=by
 unfold Ty.toV;rw[wB _ _ _ h]
theorem a4h (z:Array Value) (s:Nat) (hs:z.size=s):∀ n,((Array.range (n*s)).map (fun q=>z[q%z.size]!)).toList=(List.replicate n z.toList).flatten:=by
 intro n
 rw[Array.toList_map,Array.toList_range]
 induction n with
 | zero=>simp
 | succ n ih =>
  rw[Aa,List.range_add,List.map_append,ih,List.replicate_succ',List.flatten_append]
  congr 1
  simp only[List.flatten_cons,List.flatten_nil,Ba,List.map_map]
  apply List.ext_getElem?
  intro j
  rw[xk]
  by_cases hj:j<s
  ·rw[Bf hj]
   have hm:(n*s+j)%z.size=j:=by rw[hs,Ep,Nat.add_mul_mod_self_right,Dw hj]
   have hj2:j<z.size:=by omega
   simp only[Option.map_some,Function.comp,hm]
   rw[getElem!_pos z j hj2,Array.getElem?_toList,Ar hj2]
  ·rw[xg (by simpa using hj),xg (by rw[Array.length_toList];omega)];rfl
theorem run_make {t e:TypeId} {i:TypeInfo} {z:Value} {s n:Nat} {kl kc:IntKind} (h1:P.underlying t=some (.slice e)) (h2:P.info? e=some i) (h3:i.zero=some z) (h4:i.size=s) (h5:z.cells.size=s) (h6:0<s) (h7:i.bytes<=100000) (h8:n<=1000000000) :
  (Instr.makeSlice t (.int kl (n:Int)) (.int kc (n:Int))).run P w=.ok (.slice (some ⟨w.heap.size,0,none⟩) n n) (w.alloc (.cells ((List.replicate n z.cells.toList).flatten).toArray e)):=by
 have hb:i.bytes*n<=100000*1000000000:=xq h7 h8
 have wl:IntKind.i64.wrap (n:Int)=n:=by rw[IntKind.wrap_i64];omega
 have n1:¬ ((n:Int)<0):=by omega
 have n2:¬ (281474976710656<(i.bytes:Int)*(n:Int)):=by
  rw[<-Int.natCast_mul];omega
 have n5:¬ (n*i.bytes > roomBytes):=by rw[xw];simp only[roomBytes];omega
 have key:((Array.range (n*s)).map (fun q=>(if n*s=0 then #[] else z.cells)[q%(if n*s=0 then #[] else z.cells).size]!))=((List.replicate n z.cells.toList).flatten).toArray:=by
  apply Dk
  by_cases hz:n*s=0
  ·have hn0:n=0:=by
    rcases Nat.mul_eq_zero.1 hz with h|h
    ·exact h
    ·omega
   subst hn0
   simp
  ·rw[ji hz]
   exact a4h z.cells s h5 n
 by_cases hz:n*s=0
 ·rw[jm hz] at key
  simp[Instr.makeSlice,qo h1 w,jq,asInt,asIntOf,typeInfo,h2,wl,n1,n2,n5,askRoom,sizeOf,h4,hz,newRow]
  simp only[hz,Dl] at key
  simpa using vg (fun c=>w.alloc (.cells c e)) key
 ·rw[ji hz] at key
  simp[Instr.makeSlice,qo h1 w,jq,asInt,asIntOf,typeInfo,h2,wl,n1,n2,n5,askRoom,sizeOf,h4,hz,zeroValue,h3,newRow]
  exact vg (fun c=>w.alloc (.cells c e)) key
theorem CZ {o:Oper} {ev:Operand->Value} {t:TypeId} {ty:Ty} {x y:Operand} {b off:Nat} {ds:List Value} {F:Nat->Prop} {u:ty.den} (ho:o.op=.store t x y) (hf:fitsT P t ty=true) (hs:ty.still=true) (hx:ev x=.pointer (some ⟨b,off,none⟩)) (hy:ev y=ty.toV ds) (hc:w.there b off ds.length) (hr:rep F w ty ds u):(execOp ev o).run P w=.ok .skip (w.setCells b off ds):=by
 simp only[execOp,ho,jq,hx,hy,Instr.storeAt,Instr.sureAddr,Sem.run_pure,Result.andThen_ok]
 rw[yL hf hs hc hr]
 rfl
theorem YJ {t:Ty}:(Ty.list t).still=true:=rfl
theorem a7G {t:TypeId} (h:b4H P t=true):rM P t=some false/\∃ i,P.info? t=some i/\i.size=1:=by
 unfold b4H at h
 simp only[au,jf] at h
 refine⟨h.1,?_⟩
 cases hi:P.info? t with
 | none=>rw[hi] at h;simp at h
 | some i=>rw[hi] at h;exact⟨i,rfl,by simpa using h.2⟩
theorem VZ {t:TypeId} {b:Nat} {v:Value} (h:b4H P t=true) (hc:w.there b 0 1) (hok:cO v=true) (hcells:v.cells=#[v]):(storeVar t ⟨b,0,none⟩ v).run P w=.ok () (w.setCells b 0 [v]):=by
 obtain⟨_,i,hi,hn⟩:=a7G h
 have hst:=run_storeCells_cells (P:=P) b 0 [v] 0 w (fun j hj=>by simpa using (hc j hj).1) (fun j hj=>by simpa using (hc j hj).2) (fun u hu=>by rw[tq.1 hu];simp only[cO,au] at hok;exact hok.1)
 simp only[Nat.add_zero] at hst
 unfold storeVar
 rw[jq,run_sizeOf hi]
 simp[hcells,hn,hst]
theorem b0G {r b:Nat} {k k':K} {v:Value} (hM:Mem E ρ W w) (hr:ρ r=.kF k) (hb:E.blk r=some b) (ho:k'.one=true) (hok:cO v=true) (hw:k'.wf ρ) (hk:k'.holds E ρ w v) :
  ∃ E',Mem E' (bH ρ r (.kF k')) W (w.setCells b 0 [v])/\Ext E ρ w E' (bH ρ r (.kF k')) (w.setCells b 0 [v])/\w.there b 0 1:=by
 obtain⟨q1,q2,b',u,e,q3,q4,q5,q6⟩:=hM.kbx r k hr
 rw[hb] at q3;cases q3
 have hu:dA u=true:=by simp only[cO,au] at q5;exact q5.2
 have hgo:=wG (E:=E) (S:=fun q=>q=r) (vs:=[v]) (o:=0) (cs:=[u]) (e:=e) rfl (show E.has r 0 b from hb) q4 (fun x hx=>by rw[tq.1 hx];exact hu)
 have hh:=jA b [v] 0 w [u] e q4 (by simp)
 have hcnt:(ρ r).cnt=0:=by rw[hr];rfl
 obtain⟨m1,m2⟩:=hM.EM (w':=w.setCells b 0 [v]) r hgo (some b) (E.sl r) (E.inn r) (.kF k') trivial (fun q hq=>.inl (by
   rcases hq with hq|⟨j,hq⟩
   ·cases hq;exact⟨0,hb⟩
   ·rw[hM.inner r j (by rw[hcnt];exact uq _)] at hq;cases hq)) (fun q j h1 h2=>by rw[hM.inner r j (by rw[hcnt];exact uq _)] at h2;cases h2) (fun j j' q h1 h2=>by rw[hM.inner r j (by rw[hcnt];exact uq _)] at h1;cases h1) (fun j hj=>hM.inner r j (by rw[hcnt];exact uq _))
  (fun h=>by rw[hr] at h;exact h.elim) (fun _=>⟨trivial,fun _=>⟨by rw[hr];trivial,hb.symm⟩⟩) (fun v' h=>by rw[hr] at h;exact h.elim) (fun v' h=>by rw[hr] at h;exact h.elim) (fun v' h=>by rw[hr] at h;exact h.elim) (fun hX k9 e9=>by
   cases e9
   exact⟨hX.wf k' hw,ho,b,v,e,aG _ _ _,by simpa using hh,hok,hX.holds k' v hw hk⟩)
 refine⟨_,m1,m2,fun j hj=>⟨?_,by simp[World.frozen?,q4]⟩⟩
 have:j=0:=by omega
 subst this
 rw[yu _ _ _ _ _ _ q4];rfl
theorem MX {α:Type} {R:List Value->α->Prop} {c:List Value} {x:α} (h:R c x):∀ n,chunks R ((List.replicate n c).flatten) (List.replicate n x)
 | 0=>rfl
 | n+1=>⟨c,_,by rw[List.replicate_succ,List.flatten_cons],h,MX h n⟩
theorem FB {e:TypeId} {n m:Nat} {L:List Value} (hL:L.length=n*m) (hn:n<=1000000000) (hok:∀ u ∈ L,cO u=true) :
  Below w.heap.size w (w.alloc (.cells L.toArray e))/\(w.alloc (.cells L.toArray e)).ownsRow 0 e m (.slice (some ⟨w.heap.size,0,none⟩) n n) n L/\CAv cO (w.alloc (.cells L.toArray e)) (.slice (some ⟨w.heap.size,0,none⟩) n n):=by
 have hc:(w.alloc (.cells L.toArray e)).heap[w.heap.size]?=some (.cells L.toArray e (0,0)):=Ci w _
 refine⟨(jo _ _).alloc (ay _) _,⟨hL,.inr ⟨w.heap.size,n,L.toArray,rfl,uq _,hc,ay _,by simp only[maxLen];omega,by simpa using hL,by rw[<-hL];simp⟩⟩,fun g hg=>?_⟩
 cases hg
 exact CA.of_cells hc (fun u hu=>hok u (by simpa using hu))
theorem b5H {T:Told} {k:Operand->K} {ev:Operand->Value} {o:Oper} {vc:List Cd} {kk:K} {l:List (Nat × Res)} (h:a1o P T ρ k o.dst o.op=some (vc,kk,l)) (hv:dJ vc) (hM:Mem E ρ W w) (hw:∀ x,(k x).wf ρ) (hk:∀ x,(k x).holds E ρ w (ev x)):dV P E ρ W w o ev kk l:=by
 cases ho:o.op<;>rw[ho] at h<;>try (simp[a1o] at h;done)
 case store t x y =>
  simp only[a1o] at h
  have hkx:=hk x
  have hwx:=hw x
  split at h<;>try(cases h;done)
  ·rename_i r v i hx
   rw[hx] at hkx hwx
   split at h<;>try(cases h;done)
   ·rename_i e ty xs v' hr
    split at h<;>try(cases h;done)
    rename_i p l1 hat
    split at h<;>try(cases h;done)
    rename_i q hq
    split at h<;>try(cases h;done)
    rename_i hb
    simp only[au,jf] at hb
    obtain⟨⟨hb1,hb2⟩,hb3⟩:=hb
    simp only[setRow,ak,dh] at h
    obtain⟨rfl,rfl,rfl⟩:=h
    obtain⟨hi,hvq⟩:=hv
    obtain⟨E1,m1,m2,cs,hyv,hyr⟩:=mP hat hM (hw y) (hk y)
    have hr1:after ρ l1 r=.row e ty xs v':=by rw[qO l1 ρ r hb3];exact hr
    obtain⟨g,g1,g2⟩:=m2.holds _ _ hwx hkx (by rw[hr1];exact hb1.symm)
    rw[hr1] at g2
    have b0i:=uV _ _ _ hq cs _ hyr hvq
    obtain⟨n1,n2,n3,n4⟩:=b5n m1 hr1 g1 hi b0i
    exact⟨.skip,undef,_,_,CZ ho hb2 n4 g2 (by rw[hyv];exact a5c hq cs) n3 b0i,.inr ⟨rfl,rfl⟩,by rw[fQ];exact n1,by rw[fQ];exact m2.trans n2,trivial,trivial⟩
   ·rename_i e e2 ty ids xss v' hr
    have IE:gv v=gv v'->∃ b,bI (E.sl r)=some b/\ev x=.pointer (some ⟨b,i*1,none⟩):=fun e1=>by
     have:=hkx (by rw[hr];exact e1.symm)
     rw[hr] at this
     exact this
    split at h<;>try(cases h;done)
    ·rename_i r' vv id hy
     split at h<;>try(cases h;done)
     rename_i hb
     simp only[au,jf] at hb
     obtain⟨⟨⟨hb1,hb2⟩,hb3⟩,hb4⟩:=hb
     subst hb1 hb3
     simp only[b6v,ak,dh] at h
     obtain⟨rfl,rfl,rfl⟩:=h
     have hky:=hk y
     have hwy:=hw y
     rw[hy] at hky hwy
     have hid:=hwy.2 (by rw[hr];rfl)
     rw[hr] at hid
     obtain⟨g,g1,g2⟩:=IE hb2
     have hyv:ev y=E.inn r id:=hky (by rw[hr];rfl)
     obtain⟨cs,q1,q2,_⟩:=mG hM hr hid
     obtain⟨E',n1,n2,n3⟩:=b7C hM hr hid g1 hv.1
     exact⟨.skip,undef,_,E',CZ (ds:=[E.inn r id]) ho hb4 YJ g2 (by rw[hyv];rfl) n3 (a5Y q1 q2),.inr ⟨rfl,rfl⟩,n1,n2,trivial,trivial⟩
    ·rename_i r2 v2 hy
     split at h<;>try(cases h;done)
     rename_i e2' ty' ys v2' hr2
     split at h<;>try(cases h;done)
     rename_i zs hcast
     split at h<;>try(cases h;done)
     rename_i hb
     simp only[au,jf,jy,ne_eq] at hb
     obtain⟨⟨⟨⟨hb1,hb2⟩,hb3⟩,hb4⟩,hb5⟩:=hb
     subst hb4
     obtain⟨e9,hcast⟩:=dL hcast
     simp only[Ty.list.injEq] at e9
     subst e9
     have hcast:ys=zs:=hcast
     subst hcast
     simp only[b6u,ak,dh] at h
     obtain⟨rfl,rfl,rfl⟩:=h
     have hky:=hk y
     rw[hy] at hky
     obtain⟨g,g1,g2⟩:=IE hb2
     have hyv:ev y=E.sl r2:=hky (by rw[hr2];exact hb3.symm)
     have h2:=hM.res r2
     rw[hr2] at h2
     obtain⟨_,_,cs2,p3,p4,_⟩:=h2
     obtain⟨E',n1,n2,n3⟩:=b7B hM hr hr2 hb1 g1 hv.1
     exact⟨.skip,undef,_,E',CZ (ds:=[E.sl r2]) ho hb5 YJ g2 (by rw[hyv];rfl) n3 (a5Y p3 p4),.inr ⟨rfl,rfl⟩,n1,n2,trivial,trivial⟩
  ·rename_i r v id i hx
   rw[hx] at hkx hwx
   split at h<;>try(cases h;done)
   rename_i e e2 ty ids xss v' hr
   split at h<;>try(cases h;done)
   rename_i p l1 hat
   split at h<;>try(cases h;done)
   rename_i q hq
   split at h<;>try(cases h;done)
   rename_i hb
   simp only[au,jf] at hb
   obtain⟨⟨hb1,hb2⟩,hb3⟩:=hb
   subst hb1
   simp only[setPos,ak,dh] at h
   obtain⟨rfl,rfl,rfl⟩:=h
   obtain⟨hi,hvq⟩:=hv
   obtain⟨E1,m1,m2,cs,hyv,hyr⟩:=mP hat hM (hw y) (hk y)
   have hr1:after ρ l1 r=.mat e e2 ty ids xss v:=by rw[qO l1 ρ r hb3];exact hr
   obtain⟨g,g1,g2⟩:=m2.holds _ _ hwx hkx (by rw[hr1];rfl)
   rw[hr1] at g2
   have hid:=(m2.wf _ hwx).2 (by rw[hr1];rfl)
   rw[hr1] at hid
   have b0i:=uV _ _ _ hq cs _ hyr hvq
   obtain⟨E',n1,n2,n3,n4⟩:=b4N m1 hr1 hid g1 hi b0i
   exact⟨.skip,undef,_,E',CZ ho hb2 n4 g2 (by rw[hyv];exact a5c hq cs) n3 b0i,.inr ⟨rfl,rfl⟩,by rw[fQ];exact n1,by rw[fQ];exact m2.trans n2,trivial,trivial⟩
  ·rename_i r hx
   rw[hx] at hkx hwx
   split at h<;>try(cases h;done)
   rename_i k9 hr
   split at h<;>try(cases h;done)
   rename_i hb
   simp only[au] at hb
   obtain⟨⟨hb1,hb2⟩,hb3⟩:=hb
   simp only[ak,dh] at h
   obtain⟨rfl,rfl,rfl⟩:=h
   obtain⟨b,g1,g2⟩:=hkx (by rw[hr];trivial)
   obtain⟨hok,hcells⟩:=one_cell hb1 (hk y) (fun r' ver e=>by rw[e] at hb2;exact uH hb2) hM
   obtain⟨E',n1,n2,n3⟩:=b0G hM hr g1 hb1 hok (hw y) (hk y)
   refine⟨.skip,undef,_,E',?_,.inr ⟨rfl,rfl⟩,n1,n2,trivial,trivial⟩
   simp only[execOp,ho,jq,g2,Instr.storeAt,Instr.sureAddr,Sem.run_pure,Result.andThen_ok]
   rw[VZ hb3 n3 hok hcells]
   rfl
 case makeSlice t n m =>
  simp only[a1o] at h
  split at h<;>try(cases h;done)
  rename_i kn a kb b r hn hm hd
  have hkn:=hk n
  have hkm:=hk m
  rw[hn] at hkn
  rw[hm] at hkm
  have hkn:=jS hkn
  have hkm:=jS hkm
  have hfew:∀ {e i},DV P e=true->P.info? e=some i->i.bytes<=100000:=fun {e i} h1 h2=>by
   unfold DV at h1
   rw[h2] at h1
   simpa using h1
  split at h<;>try(cases h;done)
  ·rename_i ty hty
   split at h<;>try(cases h;done)
   rename_i e hsb
   split at h<;>try(cases h;done)
   rename_i e2 c4V
   split at h<;>try(cases h;done)
   rename_i hb
   simp only[au] at hb
   obtain⟨⟨⟨hrn,hst⟩,hfw⟩,hz⟩:=hb
   simp only[a5M,ak,dh] at h
   obtain⟨rfl,rfl,rfl⟩:=h
   obtain⟨hab,h0,hle,_⟩:=hv
   subst hab
   obtain⟨n9,rfl⟩:=uy h0
   have hρ:=Res.lN hrn
   obtain⟨u1,u2,u3,u4,_⟩:=iW hsb
   obtain⟨i,z,c,z1,z2,z3,z4,z5⟩:=yG hz
   simp only[Ty.zc,ak] at z3
   subst z3
   have hrun:=run_make (w:=w) (n:=n9) (kl:=kn) (kc:=kb) u1 z1 z2 z5 (by rw[<-Array.length_toList,z4];rfl) u4 (hfew hfw z1) (by omega)
   rw[z4] at hrun
   have hLe:(List.replicate n9 [Value.slice none 0 0]).flatten=List.replicate n9 (Value.slice none 0 0):=by
    have:∀ m,(List.replicate m [Value.slice none 0 0]).flatten=List.replicate m (Value.slice none 0 0):=by
     intro m
     induction m with
     | zero=>rfl
     | succ m ih=>rw[List.replicate_succ,List.flatten_cons,ih,List.replicate_succ];rfl
    exact this n9
   obtain⟨w1,w2,w3⟩:=FB (w:=w) (e:=e) (n:=n9) (m:=1) (L:=(List.replicate n9 [Value.slice none 0 0]).flatten) (by rw[hLe];simp) (by omega) (fun u hu=>by
    rw[hLe] at hu
    rw[(Ea.1 hu).2];exact JQ)
   have hsl:(E.rC r (some w.heap.size) (.slice (some ⟨w.heap.size,0,none⟩) n9 n9) (fun _=>.slice none 0 0)).sl r=.slice (some ⟨w.heap.size,0,none⟩) n9 n9:=aG _ _ _
   have hin:(E.rC r (some w.heap.size) (.slice (some ⟨w.heap.size,0,none⟩) n9 n9) (fun _=>.slice none 0 0)).inn r=fun _=>.slice none 0 0:=aG _ _ _
   have a3E:bJ (α:=List ty.den) none (List.replicate n9 [])=List.range n9:=by simp[bJ]
   obtain⟨m1,m2⟩:=hM.EM (w':=w.alloc (.cells ((List.replicate n9 [Value.slice none 0 0]).flatten).toArray e)) r (jI.below w1 _) (some w.heap.size) (.slice (some ⟨w.heap.size,0,none⟩) n9 n9) (fun _=>.slice none 0 0) (.mat e e2 ty none (List.replicate n9 []) 0)
    ⟨by rw[hsl];show bH E.blk r _ r=_;rw[aG];rfl,hst,⟨_,by rw[hsl,a3E,bf];exact w2,by
     rw[hin,a3E,hLe]
     apply List.ext_getElem?
     intro j
     rw[xk,List.getElem?_replicate]
     by_cases hj:j<n9
     ·rw[Bf hj,jm hj];rfl
     ·rw[xg (by simpa using hj),ji hj];rfl,by rw[hsl];exact w3⟩,fun x hx=>by
     rw[a3E] at hx
     simpa using hx,fun j _=>by rw[hin];rfl,fun j xs hj=>by
     rw[List.getElem?_replicate] at hj
     split at hj<;>first|(cases hj;done)|skip
     simp only[ak] at hj
     subst hj
     exact⟨[],by rw[hin];exact Bd _ _ _ _,rfl,by rw[hin];intro g hg;cases hg⟩⟩ (fun q hq=>by
     rcases hq with hq|⟨j,hq⟩
     ·cases hq;exact .inr (ay _)
     ·cases hq) (fun q j _ hq=>by cases hq) (fun j j' q hq=>by cases hq) (fun j _=>rfl) (fun h=>by rw[hρ] at h;exact h.elim) (fun h=>by rw[hρ] at h;exact h.elim) (fun v h=>by rw[hρ] at h;exact h.elim) (fun v h=>by rw[hρ] at h;exact h.elim) (fun v h=>by rw[hρ] at h;exact h.elim) (fun _ k e=>by cases e)
   refine dV.of (s:=Instr.makeSlice t (ev n) (ev m)) (by simp only[execOp,ho]) ⟨_,_,_,by rw[hkn,hkm];exact hrun,m1,m2,?_,fun _=>hsl.symm⟩
   show Res.dW 0 (bH ρ r _ r)
   rw[aG]
   exact ay 0
  ·split at h<;>try(cases h;done)
   rename_i ty hty
   split at h<;>try(cases h;done)
   rename_i e hsb
   split at h<;>try(cases h;done)
   rename_i hb
   simp only[au] at hb
   obtain⟨⟨⟨hrn,hst⟩,hfw⟩,hz⟩:=hb
   simp only[a5N,ak,dh] at h
   obtain⟨rfl,rfl,rfl⟩:=h
   obtain⟨hab,h0,hle,_⟩:=hv
   subst hab
   obtain⟨n9,rfl⟩:=uy h0
   have hρ:=Res.lN hrn
   obtain⟨u1,u2,u3,u4,_⟩:=iW hsb
   obtain⟨i,z,c,z1,z2,z3,z4,z5⟩:=yG hz
   have hrc:∀ (F:Nat->Prop) (w:World),rep F w ty c ty.zero:=fun F w=>BP ty c z3
   have hcl:c.length=ty.n:=dI _ _ _ (hrc (fun _=>True) w)
   have hrun:=run_make (w:=w) (n:=n9) (kl:=kn) (kc:=kb) u1 z1 z2 z5 (by rw[<-Array.length_toList,z4,hcl]) u4 (hfew hfw z1) (by omega)
   rw[z4] at hrun
   have hch:∀ (F:Nat->Prop) (w:World),chunks (rep F w ty) ((List.replicate n9 c).flatten) (List.replicate n9 ty.zero):=fun F w=>MX (hrc F w) n9
   obtain⟨w1,w2,w3⟩:=FB (w:=w) (e:=e) (n:=n9) (m:=ty.n) (L:=(List.replicate n9 c).flatten) (by
    have:=mX (fun c y=>dI ty c y) _ _ (hch (fun _=>True) w)
    rw[this,Bh]) (by omega) (a0b hst (hch (fun _=>True) w))
   have hsl:(E.put r (some w.heap.size) (.slice (some ⟨w.heap.size,0,none⟩) n9 n9)).sl r=.slice (some ⟨w.heap.size,0,none⟩) n9 n9:=aG _ _ _
   obtain⟨m1,m2⟩:=hM.turn (w':=w.alloc (.cells ((List.replicate n9 c).flatten).toArray e)) r (jI.below w1 _) (some w.heap.size) (.slice (some ⟨w.heap.size,0,none⟩) n9 n9) (.row e ty (List.replicate n9 ty.zero) 0)
    ⟨by rw[hsl];show bH E.blk r _ r=_;rw[aG];rfl,hst,_,by rw[hsl,Bh];exact w2,hch _ _,by rw[hsl];exact⟨w3,a2B _⟩⟩ (.inr (.inr rfl)) rfl (fun k e=>by cases e) (fun h=>by rw[hρ] at h;exact h.elim) (fun h=>by rw[hρ] at h;exact h.elim) (fun v h=>by rw[hρ] at h;exact h.elim) (fun v h=>by rw[hρ] at h;exact h.elim) (fun v h=>h.elim)
   refine dV.of (s:=Instr.makeSlice t (ev n) (ev m)) (by simp only[execOp,ho]) ⟨_,_,_,by rw[hkn,hkm];exact hrun,m1,m2,?_,fun _=>hsl.symm⟩
   show Res.dW 0 (bH ρ r _ r)
   rw[aG]
   exact ay 0
end
end
end Go.Proofs.YtbkocjmmbkifjaaGreat
