/-
  Lemmas for the theorem vstations28_holds, part 5 of 34.
-/
import Derived.Deep.MidRow
import Derived.Test.YtbkocjmmbkifjaaGreatQs04
namespace Go.Proofs.YtbkocjmmbkifjaaGreat
open Go Go.RowKit
theorem lg:type_of% @World.cell?_setCell_far:=@World.cell?_setCell_far
theorem Aa:type_of% @Nat.succ_mul:=@Nat.succ_mul
theorem Ce:type_of% @List.take_left:=@List.take_left
theorem Dz:type_of% @List.drop_drop:=@List.drop_drop
theorem Az:type_of% @List.drop_left:=@List.drop_left
set_option linter.unusedSimpArgs false
set_option linter.unusedVariables false
theorem Below.al {w w':World} (h:Below w.heap.size w w') (o:Obj):Below w.heap.size w (w'.alloc o):=h.alloc h.size o
theorem Below.tr {w w' w'':World} (h:Below w.heap.size w w') (k:Below w'.heap.size w' w''):Below w.heap.size w w'':=h.trans (k.mono h.size)
theorem Below.qU {m:Nat} {w w':World} (h:Below m w w') (k:Nat):Below m w (w'.drewN k):=by
 induction k with
 | zero=>exact h
 | succ k ih=>exact ih.drew
theorem Bx.drewN {w:World} {b:Nat} {cs:List Value} (h:Bx w b cs) (k:Nat):Bx (w.drewN k) b cs:=h.to (Below.qU (jo _ _) k)
theorem Rd.fP {w:World} {s:Value} {l:List Nat} (h:Rd w s l) {b:Nat} {u0 u1:Value} (q:Bx w b [u0,u1]) (h0:dA u0=true) (h1:dA u1=true) (x0 x1:Value):Rd ((w.setCell ⟨b,0,none⟩ x0).setCell ⟨b,1,none⟩ x1) s l :=
 ((h.iM (a:=⟨b,0,none⟩) (u:=u0) (by exact q.c0) h0 x0).iM (a:=⟨b,1,none⟩) (u:=u1) (by rw[zu _ _ _ _ (by simp)];exact q.c1) h1 x1)
theorem Bx.store2 {w:World} {b:Nat} {u0 u1:Value} (h:Bx w b [u0,u1]) (x0 x1:Value):Bx ((w.setCell ⟨b,0,none⟩ x0).setCell ⟨b,1,none⟩ x1) b [x0,x1]:=by
 refine⟨by simpa [World.setCell] using h.1,fun i u hu=>?_⟩
 match i,hu with
 | 0,hu=>simp at hu;subst hu;simp[go_sem,h.c0,h.f0,h.c1,h.f1]
 | 1,hu=>simp at hu;subst hu;simp[go_sem,h.c0,h.f0,h.c1,h.f1]
 | _+2,hu=>simp at hu
theorem Bx.vV {w:World} {b':Nat} {cs:List Value} (h:Bx w b' cs) {b:Nat} (hne:b'≠b) (x0 x1:Value):Bx ((w.setCell ⟨b,0,none⟩ x0).setCell ⟨b,1,none⟩ x1) b' cs:=by
 refine⟨by simpa [World.setCell] using h.1,fun i u hu=>?_⟩
 have:=h.2 i u hu
 constructor
 ·rw[lg _ _ _ _ (fun e=>hne e.symm)];rw[lg _ _ _ _ (fun e=>hne e.symm)];exact this.1
 ·rw[uo];rw[uo];exact this.2
theorem Below.fP {m:Nat} {w' w:World} (h:Below m w' w) {b:Nat} (hb:m<=b) (x0 x1:Value):Below m w' ((w.setCell ⟨b,0,none⟩ x0).setCell ⟨b,1,none⟩ x1) :=
 ((h.setCell (p:=⟨b,0,none⟩) hb x0).setCell (p:=⟨b,1,none⟩) hb x1)
theorem Raw.fP {w:World} {v:Value} {x:Int} (h:Raw w v x) {b:Nat} {u0 u1:Value} (q:Bx w b [u0,u1]) (h0:dA u0=true) (h1:dA u1=true) (x0 x1:Value):Raw ((w.setCell ⟨b,0,none⟩ x0).setCell ⟨b,1,none⟩ x1) v x:=by
 obtain⟨neg,s,l,k1,k2,k3,k4⟩:=h;exact⟨neg,s,l,k1,k2.fP q h0 h1 x0 x1,k3,k4⟩
theorem dX.fP {w:World} {v:Value} {x:Int} (h:dX w v x) {b:Nat} {u0 u1:Value} (q:Bx w b [u0,u1]) (h0:dA u0=true) (h1:dA u1=true) (x0 x1:Value):dX ((w.setCell ⟨b,0,none⟩ x0).setCell ⟨b,1,none⟩ x1) v x:=by
 obtain⟨s,k1,k2⟩:=h;exact⟨s,k1,k2.fP q h0 h1 x0 x1⟩
theorem Bx.b1q {w:World} {b':Nat} {cs:List Value} (h:Bx w b' cs) {b:Nat} (hne:b'≠b) (x0 x1 x2 x3:Value):Bx ((((w.setCell ⟨b,0,none⟩ x0).setCell ⟨b,1,none⟩ x1).setCell ⟨b,2,none⟩ x2).setCell ⟨b,3,none⟩ x3) b' cs:=by
 refine⟨by simpa [World.setCell] using h.1,fun i u hu=>?_⟩
 have:=h.2 i u hu
 constructor
 ·rw[lg _ _ _ _ (fun e=>hne e.symm)];rw[lg _ _ _ _ (fun e=>hne e.symm)];rw[lg _ _ _ _ (fun e=>hne e.symm)];rw[lg _ _ _ _ (fun e=>hne e.symm)];exact this.1
 ·rw[uo];rw[uo];rw[uo];rw[uo];exact this.2
def kN (w:World) (v:Value) (ok:Bool) (x:Int):Prop :=
 ∃ neg s l,v=.agg #[.bool neg,s]/\Rd w s l/\(∀ g ∈ l,g<4294967296)/\x=cnt neg l/\ok=KD neg l
theorem kN.raw {w:World} {v:Value} {ok:Bool} {x:Int} (h:kN w v ok x):Raw w v x:=by
 obtain⟨neg,s,l,k1,k2,k3,k4,_⟩:=h;exact⟨neg,s,l,k1,k2,k3,k4⟩
theorem kN.below {w w':World} {v:Value} {ok:Bool} {x:Int} (h:kN w v ok x) (hb:Below w.heap.size w w'):kN w' v ok x:=by
 obtain⟨neg,s,l,k1,k2,k3,k4⟩:=h;exact⟨neg,s,l,k1,k2.below hb,k3,k4⟩
theorem kN.zero {w:World} {v:Value} {x:Int} (h:kN w v false x):x=0:=by
 obtain⟨neg,s,l,k1,k2,k3,k4,k5⟩:=h;rw[k4];unfold cnt;rw[<-k5];rfl
theorem kN.int {w:World} {v:Value} {x:Int} (h:kN w v true x):dX w v x:=by
 obtain⟨neg,s,l,k1,k2,k3,k4,k5⟩:=h
 have hd:=a0j neg l
 have hc:cgs neg l=l:=by unfold cgs;rw[<-k5];rfl
 rw[hc,<-k4] at hd
 refine⟨s,?_,by rw[hd];exact k2⟩
 rw[k1]
 by_cases hx:x=0
 ·have hl:l=[]:=by rw[<-hd,hx];simp[dY]
  have:=(KE.1 k5.symm).2 hl
  rw[this,hx];simp
 ·have:=a1B (neg:=neg) (l:=l) (by rw[<-k4];exact hx)
  rw[<-k4] at this;rw[<-this]
theorem dX.a7P {w:World} {v:Value} {x:Int} (h:dX w v x):kN w v true x:=by
 obtain⟨s,h1,h2⟩:=h
 exact⟨_,s,_,h1,h2,fun g hg=>by have:=bY _ g hg;rw[bM] at this;omega,(a5b x).symm,(a3e x).symm⟩
theorem Raw.len {w:World} {b:Bool} {p:Option Addr} {n c:Nat} {x:Int} (h:Raw w (.agg #[.bool b,.slice p n c]) x):isz x<=n:=by
 obtain⟨neg,s,l,k1,k2,k3,k4⟩:=h
 cases k1
 obtain⟨p',c',e,_⟩:=k2.form
 cases e
 unfold isz nsz
 rw[k4,a0j]
 unfold cgs
 split
 ·exact ay _
 ·simp
def RQ (w:World) (v:Value) (q:Rat):Prop:=∃ b s c t,v=.agg #[b,s,c,t]/\dX w (.agg #[b,s]) q.num/\dX w (.agg #[c,t]) (q.den:Int)
theorem RQ.num {w:World} {b s c t:Value} {q:Rat} (h:RQ w (.agg #[b,s,c,t]) q):dX w (.agg #[b,s]) q.num:=by
 obtain⟨_,_,_,_,e,h1,h2⟩:=h;cases e;exact h1
theorem RQ.den {w:World} {b s c t:Value} {q:Rat} (h:RQ w (.agg #[b,s,c,t]) q):dX w (.agg #[c,t]) (q.den:Int):=by
 obtain⟨_,_,_,_,e,h1,h2⟩:=h;cases e;exact h2
theorem RQ.mk' {w:World} {b s c t:Value} {q:Rat} {n d:Int} (h1:dX w (.agg #[b,s]) n) (h2:dX w (.agg #[c,t]) d) (hn:n=q.num) (hd:d=(q.den:Int)):RQ w (.agg #[b,s,c,t]) q :=
 ⟨b,s,c,t,rfl,hn ▸ h1,hd ▸ h2⟩
theorem RQ.below {w w':World} {v:Value} {q:Rat} (h:RQ w v q) (hb:Below w.heap.size w w'):RQ w' v q:=by
 obtain⟨b,s,c,t,e,h1,h2⟩:=h;exact⟨b,s,c,t,e,h1.below hb,h2.below hb⟩
theorem RQ.form {w:World} {v:Value} {q:Rat} (h:RQ w v q):∃ b p n c b' p' n' c',v=.agg #[.bool b,.slice p n c,.bool b',.slice p' n' c']:=by
 obtain⟨b,s,c,t,e,h1,h2⟩:=h
 obtain⟨_,_,_,_,e1⟩:=h1.form
 obtain⟨_,_,_,_,e2⟩:=h2.form
 cases e1;cases e2
 exact⟨_,_,_,_,_,_,_,_,e⟩
def lH (w:World) (v:Value) (ok:Bool) (q:Rat):Prop :=
 ∃ b s c t o1 o2 n d,v=.agg #[b,s,c,t]/\kN w (.agg #[b,s]) o1 n/\kN w (.agg #[c,t]) o2 d/\ok=(o1&&(o2&&(decide (0<d)&&decide (Int.gcd n d=1))))/\q=if ok then Rat.divInt n d else 0
theorem lH.below {w w':World} {v:Value} {ok:Bool} {q:Rat} (h:lH w v ok q) (hb:Below w.heap.size w w'):lH w' v ok q:=by
 obtain⟨b,s,c,t,o1,o2,n,d,e,h1,h2,h3⟩:=h;exact⟨b,s,c,t,o1,o2,n,d,e,h1.below hb,h2.below hb,h3⟩
theorem lH.form {w:World} {v:Value} {ok:Bool} {q:Rat} (h:lH w v ok q):∃ b p n c b' p' n' c',v=.agg #[.bool b,.slice p n c,.bool b',.slice p' n' c']:=by
 obtain⟨b,s,c,t,o1,o2,n,d,e,h1,h2,_⟩:=h
 obtain⟨_,_,_,_,e1⟩:=h1.raw.form
 obtain⟨_,_,_,_,e2⟩:=h2.raw.form
 cases e1;cases e2
 exact⟨_,_,_,_,_,_,_,_,e⟩
theorem lH.rq {w:World} {v:Value} {q:Rat} (h:lH w v true q):RQ w v q:=by
 obtain⟨b,s,c,t,o1,o2,n,d,e,h1,h2,h3,h4⟩:=h
 simp only[Bool.true_eq,au,aj] at h3
 obtain⟨rfl,rfl,hd,hg⟩:=h3
 rw[jm rfl] at h4
 subst h4
 rw[e]
 exact RQ.mk' h1.int h2.int (QU hd hg).symm (QS hd hg).symm
theorem lH.no {w:World} {v:Value} {q:Rat} (h:lH w v false q):q=0:=by
 obtain⟨b,s,c,t,o1,o2,n,d,e,h1,h2,h3,h4⟩:=h
 simpa using h4
theorem RQ.raw {w:World} {v:Value} {q:Rat} (h:RQ w v q):lH w v true q:=by
 obtain⟨b,s,c,t,e,h1,h2⟩:=h
 refine⟨b,s,c,t,true,true,_,_,e,h1.a7P,h2.a7P,?_,?_⟩
 ·simp[JF];exact Nat.pos_of_ne_zero q.den_nz
 ·rw[jm rfl,Rat.num_divInt_den]
theorem kN.fP {w:World} {v:Value} {ok:Bool} {x:Int} (h:kN w v ok x) {b:Nat} {u0 u1:Value} (q:Bx w b [u0,u1]) (h0:dA u0=true) (h1:dA u1=true) (x0 x1:Value):kN ((w.setCell ⟨b,0,none⟩ x0).setCell ⟨b,1,none⟩ x1) v ok x:=by
 obtain⟨neg,s,l,k1,k2,k3,k4⟩:=h;exact⟨neg,s,l,k1,k2.fP q h0 h1 x0 x1,k3,k4⟩
theorem RQ.fP {w:World} {v:Value} {x:Rat} (h:RQ w v x) {b:Nat} {u0 u1:Value} (q:Bx w b [u0,u1]) (h0:dA u0=true) (h1:dA u1=true) (x0 x1:Value):RQ ((w.setCell ⟨b,0,none⟩ x0).setCell ⟨b,1,none⟩ x1) v x:=by
 obtain⟨a,s,c,t,e,k1,k2⟩:=h;exact⟨a,s,c,t,e,k1.fP q h0 h1 x0 x1,k2.fP q h0 h1 x0 x1⟩
theorem lH.fP {w:World} {v:Value} {ok:Bool} {x:Rat} (h:lH w v ok x) {b:Nat} {u0 u1:Value} (q:Bx w b [u0,u1]) (h0:dA u0=true) (h1:dA u1=true) (x0 x1:Value):lH ((w.setCell ⟨b,0,none⟩ x0).setCell ⟨b,1,none⟩ x1) v ok x:=by
 obtain⟨a,s,c,t,o1,o2,m,d,e,k1,k2,k3⟩:=h;exact⟨a,s,c,t,o1,o2,m,d,e,k1.fP q h0 h1 x0 x1,k2.fP q h0 h1 x0 x1,k3⟩
theorem kN.alloc {w:World} {v:Value} {ok:Bool} {x:Int} (h:kN w v ok x) (o:Obj):kN (w.alloc o) v ok x:=h.below ((jo _ _).alloc (ay _) _)
theorem kN.drew {w:World} {v:Value} {ok:Bool} {x:Int} (h:kN w v ok x):kN w.drew v ok x:=h.below (jo _ _).drew
theorem RQ.alloc {w:World} {v:Value} {x:Rat} (h:RQ w v x) (o:Obj):RQ (w.alloc o) v x:=h.below ((jo _ _).alloc (ay _) _)
theorem RQ.drew {w:World} {v:Value} {x:Rat} (h:RQ w v x):RQ w.drew v x:=h.below (jo _ _).drew
theorem lH.alloc {w:World} {v:Value} {ok:Bool} {x:Rat} (h:lH w v ok x) (o:Obj):lH (w.alloc o) v ok x:=h.below ((jo _ _).alloc (ay _) _)
theorem lH.drew {w:World} {v:Value} {ok:Bool} {x:Rat} (h:lH w v ok x):lH w.drew v ok x:=h.below (jo _ _).drew
set_option maxRecDepth 20000
theorem Bx.c4 {w:World} {b:Nat} {u0 u1 u2 u3 u4:Value} {cs:List Value} (h:Bx w b (u0::u1::u2::u3::u4::cs)):w.cell? ⟨b,4,none⟩=some u4:=(h.2 4 u4 rfl).1
theorem Bx.c5 {w:World} {b:Nat} {u0 u1 u2 u3 u4 u5:Value} {cs:List Value} (h:Bx w b (u0::u1::u2::u3::u4::u5::cs)):w.cell? ⟨b,5,none⟩=some u5:=(h.2 5 u5 rfl).1
theorem Bx.c6 {w:World} {b:Nat} {u0 u1 u2 u3 u4 u5 u6:Value} {cs:List Value} (h:Bx w b (u0::u1::u2::u3::u4::u5::u6::cs)):w.cell? ⟨b,6,none⟩=some u6:=(h.2 6 u6 rfl).1
theorem Bx.c7 {w:World} {b:Nat} {u0 u1 u2 u3 u4 u5 u6 u7:Value} {cs:List Value} (h:Bx w b (u0::u1::u2::u3::u4::u5::u6::u7::cs)):w.cell? ⟨b,7,none⟩=some u7:=(h.2 7 u7 rfl).1
theorem Bx.c8 {w:World} {b:Nat} {u0 u1 u2 u3 u4 u5 u6 u7 u8:Value} {cs:List Value} (h:Bx w b (u0::u1::u2::u3::u4::u5::u6::u7::u8::cs)):w.cell? ⟨b,8,none⟩=some u8:=(h.2 8 u8 rfl).1
theorem Bx.c9 {w:World} {b:Nat} {u0 u1 u2 u3 u4 u5 u6 u7 u8 u9:Value} {cs:List Value} (h:Bx w b (u0::u1::u2::u3::u4::u5::u6::u7::u8::u9::cs)):w.cell? ⟨b,9,none⟩=some u9:=(h.2 9 u9 rfl).1
theorem Bx.c10 {w:World} {b:Nat} {u0 u1 u2 u3 u4 u5 u6 u7 u8 u9 u10:Value} {cs:List Value} (h:Bx w b (u0::u1::u2::u3::u4::u5::u6::u7::u8::u9::u10::cs)):w.cell? ⟨b,10,none⟩=some u10:=(h.2 10 u10 rfl).1
theorem RQ.iM {w:World} {v:Value} {x:Rat} (h:RQ w v x) {a:Addr} {u:Value} (hc:w.cell? a=some u) (hu:dA u=true) (u':Value):RQ (w.setCell a u') v x:=by
 obtain⟨b,s,c,t,e,k1,k2⟩:=h;exact⟨b,s,c,t,e,k1.iM hc hu u',k2.iM hc hu u'⟩
theorem kN.iM {w:World} {v:Value} {ok:Bool} {x:Int} (h:kN w v ok x) {a:Addr} {u:Value} (hc:w.cell? a=some u) (hu:dA u=true) (u':Value):kN (w.setCell a u') v ok x:=by
 obtain⟨neg,s,l,k1,k2,k3,k4⟩:=h;exact⟨neg,s,l,k1,k2.iM hc hu u',k3,k4⟩
theorem lH.iM {w:World} {v:Value} {ok:Bool} {x:Rat} (h:lH w v ok x) {a:Addr} {u:Value} (hc:w.cell? a=some u) (hu:dA u=true) (u':Value):lH (w.setCell a u') v ok x:=by
 obtain⟨b,s,c,t,o1,o2,m,d,e,k1,k2,k3⟩:=h;exact⟨b,s,c,t,o1,o2,m,d,e,k1.iM hc hu u',k2.iM hc hu u',k3⟩
theorem bx1 (w:World) {n:Nat} (h:w.heap.size=n) (c0:List Value) (t0:TypeId):Below w.heap.size w (w.alloc (.cells c0.toArray t0))/\Bx (w.alloc (.cells c0.toArray t0)) (n) c0:=by
 subst h
 exact⟨(jo _ _).alloc (ay _) _,by have:=(Bx.new w c0 t0);simpa using this⟩
theorem bx2 (w:World) {n:Nat} (h:w.heap.size=n) (c0:List Value) (t0:TypeId) (c1:List Value) (t1:TypeId):Below w.heap.size w ((w.alloc (.cells c0.toArray t0)).alloc (.cells c1.toArray t1))/\Bx ((w.alloc (.cells c0.toArray t0)).alloc (.cells c1.toArray t1)) (n) c0/\Bx ((w.alloc (.cells c0.toArray t0)).alloc (.cells c1.toArray t1)) (n+1) c1:=by
 subst h
 exact⟨Below.al ((jo _ _).alloc (ay _) _) _,by have:=((Bx.new w c0 t0).alloc (.cells c1.toArray t1));simpa using this,by have:=(Bx.new (w.alloc (.cells c0.toArray t0)) c1 t1);simpa using this⟩
theorem bx3 (w:World) {n:Nat} (h:w.heap.size=n) (c0:List Value) (t0:TypeId) (c1:List Value) (t1:TypeId) (c2:List Value) (t2:TypeId):Below w.heap.size w (((w.alloc (.cells c0.toArray t0)).alloc (.cells c1.toArray t1)).alloc (.cells c2.toArray t2))/\Bx (((w.alloc (.cells c0.toArray t0)).alloc (.cells c1.toArray t1)).alloc (.cells c2.toArray t2)) (n) c0/\Bx (((w.alloc (.cells c0.toArray t0)).alloc (.cells c1.toArray t1)).alloc (.cells c2.toArray t2)) (n+1) c1/\Bx (((w.alloc (.cells c0.toArray t0)).alloc (.cells c1.toArray t1)).alloc (.cells c2.toArray t2)) (n+1+1) c2:=by
 subst h
 exact⟨Below.al (Below.al ((jo _ _).alloc (ay _) _) _) _,by have:=(((Bx.new w c0 t0).alloc (.cells c1.toArray t1)).alloc (.cells c2.toArray t2));simpa using this,by have:=((Bx.new (w.alloc (.cells c0.toArray t0)) c1 t1).alloc (.cells c2.toArray t2));simpa using this,by have:=(Bx.new ((w.alloc (.cells c0.toArray t0)).alloc (.cells c1.toArray t1)) c2 t2);simpa using this⟩
theorem Bx.cs2 {w:World} {b:Nat} {u0 u1:Value} (h:Bx w b [u0,u1]):w.cell? ⟨b,0,none⟩=some u0/\w.cell? ⟨b,1,none⟩=some u1 :=
 ⟨(h.2 0 u0 rfl).1,(h.2 1 u1 rfl).1⟩
theorem Bx.cf2 {w:World} {b:Nat} {u0 u1:Value} (h:Bx w b [u0,u1]):w.cell? ⟨b,0,none⟩=some u0/\w.frozen? ⟨b,0,none⟩=false/\w.cell? ⟨b,1,none⟩=some u1/\w.frozen? ⟨b,1,none⟩=false :=
 ⟨(h.2 0 u0 rfl).1,(h.2 0 u0 rfl).2,(h.2 1 u1 rfl).1,(h.2 1 u1 rfl).2⟩
def vY (S:World->Prop):Prop:=∀ A B:World,S A->Below A.heap.size A B->S B
def EC (b:Nat) (S:World->Prop):Prop:=∀ (A:World) (j:Nat) (x:Value),S A->S (A.setCell ⟨b,j,none⟩ x)
theorem vY.go {S:World->Prop} (h:vY S) {A B:World} (hS:S A) (hb:Below A.heap.size A B):S B:=h A B hS hb
abbrev ZN (S T:World->Prop) (w:World):Prop:=S w/\T w
theorem ZN.mk {S T:World->Prop} {w:World} (x:S w) (y:T w):ZN S T w:=⟨x,y⟩
theorem ZN.hk {S T:World->Prop} (h:vY S) (h':vY T):vY (ZN S T):=fun A B x hb=>⟨h A B x.1 hb,h' A B x.2 hb⟩
theorem ZN.hc {S T:World->Prop} {b:Nat} (h:EC b S) (h':EC b T):EC b (ZN S T):=fun A j v x=>⟨h A j v x.1,h' A j v x.2⟩
abbrev BT (w:World):Prop:=True
theorem BT.of (w:World):BT w:=trivial
theorem BT.hk:vY BT:=fun _ _ _ _=>trivial
theorem BT.hc {b:Nat}:EC b BT:=fun _ _ _ _=>trivial
abbrev BN (b:Nat) (w:World):Prop:=b<w.heap.size
theorem BN.of {w:World} {b:Nat} {cs:List Value} (h:Bx w b cs):BN b w:=h.1
theorem BN.hk {b:Nat}:vY (BN b):=fun A B x hb=>qg x hb.size
theorem BN.hc {b b':Nat}:EC b' (BN b):=fun A j v x=>by simpa [World.setCell] using x
abbrev BC (b o:Nat) (u:Value) (w:World):Prop:=w.cell? ⟨b,o,none⟩=some u/\b<w.heap.size
theorem BC.of {w w':World} {b o:Nat} {u:Value} (hb:Below w.heap.size w w') (hl:b<w.heap.size) (hc:w.cell? ⟨b,o,none⟩=some u):BC b o u w':=⟨((iQ hb).1 _ _ hl).trans hc,qg hl hb.size⟩
theorem BC.at {w w':World} {b o:Nat} {u:Value} (h:BC b o u w) (hb:Below w.heap.size w w'):w'.cell? ⟨b,o,none⟩=some u:=((iQ hb).1 _ _ h.2).trans h.1
theorem BC.hk {b o:Nat} {u:Value}:vY (BC b o u):=fun A B x hb=>⟨((iQ hb).1 _ _ x.2).trans x.1,qg x.2 hb.size⟩
theorem BC.hc {b b' o:Nat} {u:Value} (h:b≠b'):EC b' (BC b o u):=fun A j v x=>⟨(lg _ _ _ _ (fun e=>h e.symm)).trans x.1,by simpa [World.setCell] using x.2⟩
abbrev BS1 (b:Nat) (u0:Value) (w:World):Prop:=w.cell? ⟨b,0,none⟩=some u0/\b<w.heap.size
theorem BS1.hk {b:Nat} {u0:Value}:vY (BS1 b u0):=fun A B ⟨h0,hl⟩ hb=>⟨((iQ hb).1 _ _ hl).trans h0,qg hl hb.size⟩
theorem BS1.hc {b b':Nat} {u0:Value} (h:b≠b'):EC b' (BS1 b u0):=fun A j v ⟨h0,hl⟩=>⟨(lg _ _ _ _ (fun e=>h e.symm)).trans h0,by simpa [World.setCell] using hl⟩
abbrev BS2 (b:Nat) (u0 u1:Value) (w:World):Prop:=w.cell? ⟨b,0,none⟩=some u0/\w.cell? ⟨b,1,none⟩=some u1/\b<w.heap.size
theorem Bx.bs2 {w:World} {b:Nat} {u0 u1:Value} (h:Bx w b [u0,u1]):BS2 b u0 u1 w:=⟨(h.2 0 u0 rfl).1,(h.2 1 u1 rfl).1,h.1⟩
theorem BS2.hk {b:Nat} {u0 u1:Value}:vY (BS2 b u0 u1):=fun A B ⟨h0,h1,hl⟩ hb=>⟨((iQ hb).1 _ _ hl).trans h0,((iQ hb).1 _ _ hl).trans h1,qg hl hb.size⟩
theorem BS2.hc {b b':Nat} {u0 u1:Value} (h:b≠b'):EC b' (BS2 b u0 u1):=fun A j v ⟨h0,h1,hl⟩=>⟨(lg _ _ _ _ (fun e=>h e.symm)).trans h0,(lg _ _ _ _ (fun e=>h e.symm)).trans h1,by simpa [World.setCell] using hl⟩
abbrev BS4 (b:Nat) (u0 u1 u2 u3:Value) (w:World):Prop:=w.cell? ⟨b,0,none⟩=some u0/\w.cell? ⟨b,1,none⟩=some u1/\w.cell? ⟨b,2,none⟩=some u2/\w.cell? ⟨b,3,none⟩=some u3/\b<w.heap.size
theorem BS4.hk {b:Nat} {u0 u1 u2 u3:Value}:vY (BS4 b u0 u1 u2 u3):=fun A B ⟨h0,h1,h2,h3,hl⟩ hb=>⟨((iQ hb).1 _ _ hl).trans h0,((iQ hb).1 _ _ hl).trans h1,((iQ hb).1 _ _ hl).trans h2,((iQ hb).1 _ _ hl).trans h3,qg hl hb.size⟩
theorem BS4.hc {b b':Nat} {u0 u1 u2 u3:Value} (h:b≠b'):EC b' (BS4 b u0 u1 u2 u3):=fun A j v ⟨h0,h1,h2,h3,hl⟩=>⟨(lg _ _ _ _ (fun e=>h e.symm)).trans h0,(lg _ _ _ _ (fun e=>h e.symm)).trans h1,(lg _ _ _ _ (fun e=>h e.symm)).trans h2,(lg _ _ _ _ (fun e=>h e.symm)).trans h3,by simpa [World.setCell] using hl⟩
abbrev BS8 (b:Nat) (u0 u1 u2 u3 u4 u5 u6 u7:Value) (w:World):Prop:=w.cell? ⟨b,0,none⟩=some u0/\w.cell? ⟨b,1,none⟩=some u1/\w.cell? ⟨b,2,none⟩=some u2/\w.cell? ⟨b,3,none⟩=some u3/\w.cell? ⟨b,4,none⟩=some u4/\w.cell? ⟨b,5,none⟩=some u5/\w.cell? ⟨b,6,none⟩=some u6/\w.cell? ⟨b,7,none⟩=some u7/\b<w.heap.size
theorem BS8.hk {b:Nat} {u0 u1 u2 u3 u4 u5 u6 u7:Value}:vY (BS8 b u0 u1 u2 u3 u4 u5 u6 u7):=fun A B ⟨h0,h1,h2,h3,h4,h5,h6,h7,hl⟩ hb=>⟨((iQ hb).1 _ _ hl).trans h0,((iQ hb).1 _ _ hl).trans h1,((iQ hb).1 _ _ hl).trans h2,((iQ hb).1 _ _ hl).trans h3,((iQ hb).1 _ _ hl).trans h4,((iQ hb).1 _ _ hl).trans h5,((iQ hb).1 _ _ hl).trans h6,((iQ hb).1 _ _ hl).trans h7,qg hl hb.size⟩
theorem BS8.hc {b b':Nat} {u0 u1 u2 u3 u4 u5 u6 u7:Value} (h:b≠b'):EC b' (BS8 b u0 u1 u2 u3 u4 u5 u6 u7):=fun A j v ⟨h0,h1,h2,h3,h4,h5,h6,h7,hl⟩=>⟨(lg _ _ _ _ (fun e=>h e.symm)).trans h0,(lg _ _ _ _ (fun e=>h e.symm)).trans h1,(lg _ _ _ _ (fun e=>h e.symm)).trans h2,(lg _ _ _ _ (fun e=>h e.symm)).trans h3,(lg _ _ _ _ (fun e=>h e.symm)).trans h4,(lg _ _ _ _ (fun e=>h e.symm)).trans h5,(lg _ _ _ _ (fun e=>h e.symm)).trans h6,(lg _ _ _ _ (fun e=>h e.symm)).trans h7,by simpa [World.setCell] using hl⟩
set_option maxRecDepth 100000
set_option maxHeartbeats 2000000
theorem Canon.pos {b:List Nat} (hb:Canon b) (h:b≠[]):0<val b:=by
 rcases Am (val b) with h0|h0
 ·have:=dM hb
  rw[h0,dY] at this
  exact absurd this.symm h
 ·exact h0
def ZO (l m:List Nat) (w:World) (e:Ending) (w':World):Prop:=∃ v1 v2,e=.returned (.tuple #[v1,v2])/\Rd w' v1 l/\Rd w' v2 m/\Below w.heap.size w w'
theorem b4M (s t:Value) (a b:List Nat) (w:World) (hs:Rd w s a) (ht:Rd w t b) (ha:Canon a) (hb:Canon b) (la:a.length<=1000000000) (hb0:b≠[]) (hlt:val a<val b) :
  Calls Tryz.prog 251 #[s,t] w (ZO (dig (val a / val b)) (dig (val a%val b)) w):=by
 have hbp:=hb.pos hb0
 obtain⟨p,c,rfl,hc1,hc2⟩:=hs.form
 obtain⟨q,d,rfl,hd1,hd2⟩:=ht.form
 have HX:Hid (dig (val a / val b)=[]/\dig (val a%val b)=a):=by
  refine⟨by rw[En hlt,dY],by rw[Dw hlt,dM ha]⟩
 have hcv:dF (val a) (val b)=-1:=by unfold dF;rw[jm (by omega)]
 have HCV:=je hcv
 clear hcv hlt hbp
 go_enter Tryz.func251,Tryz.ntmps251
 go_wp2_with fail
 refine(kR _ _ a b _ hs ht ha hb).mono ?_
 rw[HCV.out]
 rintro e w1 ⟨rfl,hb1⟩
 go_wp2_with fail
 go_ret2
 exact⟨_,_,rfl,by rw[HX.out.1];exact Rd.nil _,by rw[HX.out.2];exact hs.below hb1,hb1⟩
theorem a3Y (s t:Value) (a b:List Nat) (w:World) (hs:Rd w s a) (ht:Rd w t b) (ha:Canon a) (hb:Canon b) (la:a.length<=1000000000) (hb0:b≠[]) (hle:val b<=val a) (ha2:a.length<=2) :
  Calls Tryz.prog 251 #[s,t] w (ZO (dig (val a / val b)) (dig (val a%val b)) w):=by
 have hbp:=hb.pos hb0
 obtain⟨p,c,rfl,hc1,hc2⟩:=hs.form
 obtain⟨q,d,rfl,hd1,hd2⟩:=ht.form
 have hlen:b.length<=a.length:=by
  have:=aV hle
  rwa [dM ha,dM hb] at this
 have hb1':1<=b.length:=yj.2 hb0
 have hc:0<=dF (val a) (val b):=by unfold dF;rw[ji (by omega)];split<;>omega
 obtain⟨cv,hcv⟩:∃ cv,dF (val a) (val b)=cv:=⟨_,rfl⟩
 rw[hcv] at hc
 have hdc:decide (cv<0)=false:=by simpa using hc
 have HCV:=je hcv
 have HLE:=je hle
 have HBP:=je hbp
 clear hcv hle hbp hc
 have hb2:b.length<=2:=by omega
 have hA:val a<=999999999999999999:=by
  have h1:=lG ha.1
  have h2:BB ^ a.length<=BB ^ 2:=xu gG ha2
  rw[bM] at h1 h2
  omega
 have hbv:0<val b:=HBP.out
 have c2J:val b<=val a:=HLE.out
 obtain⟨A,hA'⟩:∃ A,val a=A:=⟨_,rfl⟩
 obtain⟨B,hB'⟩:∃ B,val b=B:=⟨_,rfl⟩
 rw[hA'] at hA c2J ⊢
 rw[hB'] at hbv c2J ⊢
 have hq1:A / B<=A:=Nat.div_le_self _ _
 have hr1:A%B<B:=Aw _ hbv
 obtain⟨Q,hQ⟩:∃ Q,A / B=Q:=⟨_,rfl⟩
 obtain⟨R,hR⟩:∃ R,A%B=R:=⟨_,rfl⟩
 rw[hQ] at hq1 ⊢
 rw[hR] at hr1 ⊢
 have i1:(A:Int) / B=Q:=by rw[<-hQ];simp
 have i2:(A:Int)%B=R:=by rw[<-hR];simp
 have i3:(A:Int).tmod B=R:=by rw[Ef (by omega)];exact i2
 have w1:IntKind.u64.wrap (Q:Int)=Q:=wrap_u64 (by omega)
 have w2:IntKind.u64.wrap (R:Int)=R:=wrap_u64 (by omega)
 have hdz:((B:Int)==0)=false:=by simp;omega
 have hdn:¬ B=0:=by omega
 have b0f:=fun w=>TY (n:=A) (d:=B) (v:=Q) (by omega) hA i1 w1 w
 have b3J:=fun w=>UE (n:=A) (d:=B) (v:=R) (by omega) hA i2 w2 w
 have HAB:=je (And.intro hA' hB')
 clear hQ hR hA' hB'
 go_enter Tryz.func251,Tryz.ntmps251
 go_wp2_with fail
 refine(kR _ _ a b _ hs ht ha hb).mono ?_
 rw[HCV.out]
 rintro e w1 ⟨rfl,hb1⟩
 go_wp2_with fail
 refine(BO _ a _ (hs.below hb1) ha.1 ha2).mono ?_
 rw[HAB.out.1]
 rintro e w2 ⟨rfl,hb2'⟩
 go_wp2_with fail
 refine(BO _ b _ ((ht.below hb1).below hb2') hb.1 hb2).mono ?_
 rw[HAB.out.2]
 rintro e w3 ⟨rfl,hb3⟩
 have hB3:=(hb1.trans (hb2'.mono hb1.size)).trans (hb3.mono (iq hb1.size hb2'.size))
 have tk1:True:=trivial
 have hz3:=hB3.size
 go_wp2_with fail
 have S0:(fun _:World=>True) w3.drew:=trivial
 go_region_held3 (fun _:World=>True) (trivial)
  (first
   | (have:=tk1;clear tk1;go_at_call 247;(with_reducible refine(sH Q _ (by omega)).mono ?_);rintro e w4 ⟨v4,rfl,ho4,hb4⟩)
   | (go_at_call 247;(with_reducible refine(sH R _ (by omega)).mono ?_);rintro e w5 ⟨v5,rfl,ho5,hb5⟩))
 go_wp2_with fail
 go_ret2
 exact⟨_,_,rfl,(Rd.dK ho4).below hb5,Rd.dK ho5,(hB3.drew.trans (hb4.mono hz3)).trans (hb5.mono (iq hz3 hb4.size))⟩
theorem b1t (s t:Value) (a b:List Nat) (w:World) (hs:Rd w s a) (ht:Rd w t b) (ha:Canon a) (hb:Canon b) (la:a.length<=1000000000) (hb0:b≠[]) (hle:val b<=val a) (ha3:2<a.length) (XL:b.length=1) :
  Calls Tryz.prog 251 #[s,t] w (ZO (dig (val a / val b)) (dig (val a%val b)) w):=by
 have hbp:=hb.pos hb0
 obtain⟨p,c,rfl,hc1,hc2⟩:=hs.form
 obtain⟨q,d,rfl,hd1,hd2⟩:=ht.form
 have hlen:b.length<=a.length:=by
  have:=aV hle
  rwa [dM ha,dM hb] at this
 have hb1':1<=b.length:=yj.2 hb0
 have hc:0<=dF (val a) (val b):=by unfold dF;rw[ji (by omega)];split<;>omega
 obtain⟨cv,hcv⟩:∃ cv,dF (val a) (val b)=cv:=⟨_,rfl⟩
 rw[hcv] at hc
 have hdc:decide (cv<0)=false:=by simpa using hc
 have HCV:=je hcv
 have HLE:=je hle
 have HBP:=je hbp
 clear hcv hle hbp hc
 obtain⟨d0,rfl⟩:∃ d0,b=[d0]:=by
  cases b with
  | nil=>simp at XL
  | cons x t=>cases t with
   | nil=>exact⟨x,rfl⟩
   | cons=>simp at XL
 have ht':Rd w (.slice q 1 d) [d0]:=ht
 show Calls Tryz.prog 251 #[.slice p a.length c,.slice q 1 d] w _
 obtain⟨gb,ob,rfl,hgb,hcb⟩:=ht'.at (by simp)
 have hc0:w.cell? ⟨gb,ob,none⟩=some (.int .u32 (d0:Nat)):=by simpa [gr] using hcb 0 (by simp)
 have b7f:d0<=999999999:=by have:=hb.1 d0 (by simp);rw[bM] at this;omega
 have hvd:val [d0]=d0:=by simp[bZ]
 have hd0:1<=d0:=by have:=HBP.out;rw[hvd] at this;exact this
 have hr0:val a%d0<d0:=Aw _ hd0
 have HVD:=je hvd
 clear hvd hcb XL
 go_enter Tryz.func251,Tryz.ntmps251
 go_wp2_with fail
 refine(kR _ _ a [d0] _ hs ht' ha hb).mono ?_
 rw[HCV.out]
 rintro e w1 ⟨rfl,hb1⟩
 go_wp2_with fail
 refine(PZ _ a _ (hs.below hb1) ha3).mono ?_
 rintro e w2 ⟨rfl,hb2'⟩
 go_wp2_with fail
 refine(BO _ [d0] _ ((ht'.below hb1).below hb2') hb.1 (by simp)).mono ?_
 rintro e w3 ⟨rfl,hb3⟩
 have hB3:=(hb1.trans (hb2'.mono hb1.size)).trans (hb3.mono (iq hb1.size hb2'.size))
 have hc3:w3.cell? ⟨gb,ob,none⟩=some (.int .u32 (d0:Nat)):=(hB3.cell (p:=⟨gb,ob,none⟩) hgb).trans hc0
 have hs3:=hs.below hB3
 have hz3:=hB3.size
 go_wp2_with fail
 refine(short_any _ a d0 _ hs3 ha.1 hd0 b7f (by omega)).mono ?_
 rintro e w4 ⟨v4,rfl,ho4,hb4⟩
 obtain⟨R,hR⟩:∃ R,val a%d0=R:=⟨_,rfl⟩
 rw[hR] at hr0 ⊢
 have HR:=je hR
 clear hR
 go_wp2_with fail
 refine(sH R _ (by omega)).mono ?_
 rintro e w5 ⟨v5,rfl,ho5,hb5⟩
 go_wp2_with fail
 go_ret2
 exact⟨_,_,rfl,by rw[HVD.out];exact(Rd.dK ho4).below hb5,by rw[HVD.out,HR.out];exact Rd.dK ho5,(hB3.trans (hb4.mono hz3)).trans (hb5.mono (iq hz3 hb4.size))⟩
theorem a7I (s t:Value) (a b:List Nat) (w:World) (hs:Rd w s a) (ht:Rd w t b) (ha:Canon a) (hb:Canon b) (la:a.length<=1000000000) (hb0:b≠[]) (hle:val b<=val a) (ha3:2<a.length) (XL:b.length≠1) :
  Calls Tryz.prog 251 #[s,t] w (ZO (dig (val a / val b)) (dig (val a%val b)) w):=by
 have hbp:=hb.pos hb0
 obtain⟨p,c,rfl,hc1,hc2⟩:=hs.form
 obtain⟨q,d,rfl,hd1,hd2⟩:=ht.form
 have hlen:b.length<=a.length:=by
  have:=aV hle
  rwa [dM ha,dM hb] at this
 have hb1':1<=b.length:=yj.2 hb0
 have hc:0<=dF (val a) (val b):=by unfold dF;rw[ji (by omega)];split<;>omega
 obtain⟨cv,hcv⟩:∃ cv,dF (val a) (val b)=cv:=⟨_,rfl⟩
 rw[hcv] at hc
 have hdc:decide (cv<0)=false:=by simpa using hc
 have HCV:=je hcv
 have HLE:=je hle
 have HBP:=je hbp
 clear hcv hle hbp hc
 have hb2:2<=b.length:=by omega
 have hne:((b.length:Int)==1)=false:=by simp;omega
 have hz:=fun(w3:World) (hB3:Below w.heap.size w w3)=>b0U _ _ a b w3 (hs.below hB3) (ht.below hB3) ha hb la hb2 HLE.out
 have HZ:=je hz
 have HN1:=je XL
 clear hz XL
 by_cases hb3:b.length<=2
 all_goals
  go_enter Tryz.func251,Tryz.ntmps251
  go_wp2_with fail
  refine(kR _ _ a b _ hs ht ha hb).mono ?_
  rw[HCV.out]
  rintro e w1 ⟨rfl,hb1⟩
  go_wp2_with fail
  refine(PZ _ a _ (hs.below hb1) ha3).mono ?_
  rintro e w2 ⟨rfl,hb2'⟩
  go_wp2_with fail
  first
   |refine(BO _ b _ ((ht.below hb1).below hb2') hb.1 hb3).mono ?_
   |refine(PZ _ b _ ((ht.below hb1).below hb2') (by omega)).mono ?_
  rintro e w3 ⟨rfl,c4I⟩
  have hB3:=(hb1.trans (hb2'.mono hb1.size)).trans (c4I.mono (iq hb1.size hb2'.size))
  go_wp2_with fail
  refine(HZ.out _ hB3).mono ?_
  rintro e w4 ⟨v1,v2,rfl,hv1,hv2,hb4⟩
  go_wp2_with fail
  go_ret2
  exact⟨_,_,rfl,hv1,hv2,hB3.trans (hb4.mono hB3.size)⟩
theorem a2G (s t:Value) (a b:List Nat) (w:World) (hs:Rd w s a) (ht:Rd w t b) (ha:Canon a) (hb:Canon b) (la:a.length<=1000000000) (hb0:b≠[]) :
  Calls Tryz.prog 251 #[s,t] w (ZO (dig (val a / val b)) (dig (val a%val b)) w):=by
 by_cases hlt:val a<val b
 ·exact b4M s t a b w hs ht ha hb la hb0 hlt
 ·by_cases ha2:a.length<=2
  ·exact a3Y s t a b w hs ht ha hb la hb0 (by omega) ha2
  ·by_cases h1:b.length=1
   ·exact b1t s t a b w hs ht ha hb la hb0 (by omega) (by omega) h1
   ·exact a7I s t a b w hs ht ha hb la hb0 (by omega) (by omega) h1
theorem ES {w:World} {v:Value} {x y:Int} (h:dX w v x) (e:x=y):dX w v y:=e ▸ h
set_option maxHeartbeats 4000000
theorem gcd_zero {l1:List Nat} {x y:Int} (h:Nat.gcd (val l1) (val ([]:List Nat))=Int.gcd x y):sg false (val l1)=((Int.gcd x y:Nat):Int):=by
 rw[<-h];simp[val,sg]
theorem RN {a b g:Nat} (h:Nat.gcd a b=g):Nat.gcd b (a%b)=g:=by
 rw[<-h,Nat.gcd_comm a b,Nat.gcd_rec b a,Nat.gcd_comm]
theorem a7j (x y:Int):Hid (Nat.gcd (val (dig x.natAbs)) (val (dig y.natAbs))=Int.gcd x y):=by unfold Hid;rw[bK,bK];rfl
theorem XE {l:List Nat} (h:Canon l) (h2:l.length<=2):val l<=999999999999999999:=by
 have h1:=lG h.1
 have h3:BB ^ l.length<=BB ^ 2:=xu gG h2
 rw[bM] at h1 h3
 omega
theorem a4E (v:Value) (ok:Bool) (x:Int) (w:World) (h:kN w v ok x) :
  Calls Tryz.prog 212 #[v] w fun e w'=>e=.returned (.bool ok)/\Below w.heap.size w w':=by
 obtain⟨neg,s,l,rfl,k2,k3,k4,k5⟩:=h
 have:=MP neg s l w k2
 rw[<-k5] at this
 exact this
def sgn (x:Int):Int:=x.sign
def Qn (v:Value) (k:Nat):Prop:=∃ b p n c b' p' n' c',v=.agg #[.bool b,.slice p n c,.bool b',.slice p' n' c']/\n<=k/\n'<=k
theorem dX.len {w:World} {b:Bool} {p:Option Addr} {n c:Nat} {x:Int} (h:dX w (.agg #[.bool b,.slice p n c]) x):n=isz x:=by
 obtain⟨s,k1,k2⟩:=h
 cases k1
 obtain⟨p',c',e,_⟩:=k2.form
 cases e
 rfl
theorem RQ.qn {w:World} {v:Value} {q:Rat} {k:Nat} (h:RQ w v q) (hk:rsz q<=k):Qn v k:=by
 obtain⟨b,s,c,t,e,h1,h2⟩:=h
 obtain⟨b1,p1,n1,c1,e1⟩:=h1.form
 obtain⟨b2,p2,n2,c2,e2⟩:=h2.form
 cases e1;cases e2
 refine⟨_,_,_,_,_,_,_,_,e,?_,?_⟩
 ·rw[h1.len];have:=oQ q;omega
 ·rw[h2.len];have:=kJ q;omega
theorem RQ.a0U {w:World} {v:Value} {q:Rat} {k:Nat} (h:RQ w v q) (hn:Qn v k):rsz q<=k:=by
 obtain⟨b,s,c,t,e,h1,h2⟩:=h
 obtain⟨b1,p1,n1,c1,b2,p2,n2,c2,e1,l1,l2⟩:=hn
 rw[e1] at e
 cases e
 rw[h1.len] at l1
 rw[h2.len] at l2
 have:isz (q.den:Int)=nsz q.den:=by simp[isz]
 rw[this] at l2
 exact Nat.max_le.2 ⟨l1,l2⟩
theorem b2f:rsz 0=1:=by decide +kernel
theorem lH.a0U {w:World} {v:Value} {ok:Bool} {q:Rat} {k:Nat} (h:lH w v ok q) (hn:Qn v k) (hk:1<=k):rsz q<=k:=by
 cases ok
 ·rw[h.no,b2f];exact hk
 ·exact h.rq.a0U hn
structure iP (F:Nat->Prop) (w w':World):Prop where
 blk:∀ b,F b->w'.heap[b]?=w.heap[b]?
 dig:∀ b o n,w.cell? ⟨b,o,none⟩=some (.int .u32 n)->w'.cell? ⟨b,o,none⟩=some (.int .u32 n)
 size:w.heap.size<=w'.heap.size
theorem iP.refl (F:Nat->Prop) (w:World):iP F w w:=⟨fun _ _=>rfl,fun _ _ _ h=>h,ay _⟩
theorem iP.trans {F:Nat->Prop} {a b c:World} (h:iP F a b) (k:iP F b c):iP F a c :=
 ⟨fun q hq=>(k.blk q hq).trans (h.blk q hq),fun q o n hc=>k.dig q o n (h.dig q o n hc),iq h.size k.size⟩
theorem iP.less {F F':Nat->Prop} {a b:World} (h:iP F' a b) (hF:∀ q,F q->F' q):iP F a b:=⟨fun q hq=>h.blk q (hF q hq),h.dig,h.size⟩
theorem cell_lt {w:World} {b o:Nat} {v:Value} (h:w.cell? ⟨b,o,none⟩=some v):b<w.heap.size:=by
 simp only[World.cell?] at h
 by_cases hb:b<w.heap.size
 ·exact hb
 ·grind
theorem iP.below {F:Nat->Prop} {w w':World} (h:Below w.heap.size w w') (hF:∀ q,F q->q<w.heap.size):iP F w w' :=
 ⟨fun q hq=>h.block q (hF q hq),fun b o n hc=>(h.cell (p:=⟨b,o,none⟩) (cell_lt hc)).trans hc,h.size⟩
theorem Rd.stay {F:Nat->Prop} {w w':World} {s:Value} {l:List Nat} (h:Rd w s l) (hs:iP F w w'):Rd w' s l:=by
 rcases h with h|⟨b,o,c,h1,h2,h3,h4,h5⟩
 ·exact .inl h
 ·exact .inr ⟨b,o,c,h1,h2,h3,qg h4 hs.size,fun i hi=>hs.dig _ _ _ (h5 i hi)⟩
theorem dX.stay {F:Nat->Prop} {w w':World} {v:Value} {x:Int} (h:dX w v x) (hs:iP F w w'):dX w' v x:=by
 obtain⟨s,h1,h2⟩:=h
 exact⟨s,h1,h2.stay hs⟩
theorem RQ.stay {F:Nat->Prop} {w w':World} {v:Value} {x:Rat} (h:RQ w v x) (hs:iP F w w'):RQ w' v x:=by
 obtain⟨b,s,c,t,h1,h2,h3⟩:=h
 exact⟨b,s,c,t,h1,h2.stay hs,h3.stay hs⟩
theorem kN.stay {F:Nat->Prop} {w w':World} {v:Value} {ok:Bool} {x:Int} (h:kN w v ok x) (hs:iP F w w'):kN w' v ok x:=by
 obtain⟨neg,s,l,h1,h2,h3⟩:=h
 exact⟨neg,s,l,h1,h2.stay hs,h3⟩
theorem lH.stay {F:Nat->Prop} {w w':World} {v:Value} {ok:Bool} {x:Rat} (h:lH w v ok x) (hs:iP F w w'):lH w' v ok x:=by
 obtain⟨b,s,c,t,o1,x1,o2,x2,h1,h2,h3,h4⟩:=h
 exact⟨b,s,c,t,o1,x1,o2,x2,h1,h2.stay hs,h3.stay hs,h4⟩
structure gW where
 ok:Bool
 x:Int
 g:List Nat
structure aH where
 ok:Bool
 x:Rat
 g:List Nat
 h:List Nat
abbrev gW.n (x:gW):Nat:=x.g.length
abbrev aH.n (x:aH):Nat:=x.g.length
abbrev aH.m (x:aH):Nat:=x.h.length
inductive Lf where
 | rat
 | big
 | iL
 | FI
 | str
 | grp
 | gsl
 | OA
 | esl
 deriving DecidableEq
def Lf.den:Lf->Type
 | .rat=>Rat
 | .big=>Int
 | .iL=>aH
 | .FI=>gW
 | .str=>ByteArray
 | .grp=>List Nat
 | .gsl=>List Nat
 | .OA=>Nat
 | .esl=>Unit
def Lf.n:Lf->Nat
 | .rat=>4
 | .big=>2
 | .iL=>4
 | .FI=>2
 | .str=>1
 | .grp=>2
 | .gsl=>1
 | .OA=>1
 | .esl=>1
def Lf.agg:Lf->Bool
 | .str=>false
 | .gsl=>false
 | .OA=>false
 | .esl=>false
 | _=>true
def Lf.zero:(l:Lf)->l.den
 | .rat=>(0:Rat)
 | .big=>(0:Int)
 | .iL=>⟨false,0,[],[]⟩
 | .FI=>⟨true,0,[]⟩
 | .str=>ByteArray.empty
 | .grp=>[]
 | .gsl=>[]
 | .OA=>(0:Nat)
 | .esl=>()
def Lf.rep (w:World) (cs:List Value):(l:Lf)->l.den->Prop
 | .rat,x=>RQ w (.agg cs.toArray) x
 | .big,x=>dX w (.agg cs.toArray) x
 | .iL,x=>∃ b p c b' p' c',cs=[.bool b,.slice p x.n c,.bool b',.slice p' x.m c']/\lH w (.agg cs.toArray) x.ok x.x/\Rd w (.slice p x.n c) x.g/\Rd w (.slice p' x.m c') x.h
 | .FI,x=>∃ b p c,cs=[.bool b,.slice p x.n c]/\kN w (.agg cs.toArray) x.ok x.x/\Rd w (.slice p x.n c) x.g
 | .str,x=>cs=[.string x]
 | .grp,x=>∃ b s,cs=[.bool b,s]/\Rd w s x
 | .gsl,x=>∃ s,cs=[s]/\Rd w s x
 | .OA,x=>∃ b o,cs=[.pointer (some ⟨b,o,none⟩)]/\w.cell? ⟨b,o,none⟩=some (.int .u32 (Nat.cast (R:=Int) x))
 | .esl,_=>∃ b,cs=[.slice (some ⟨b,0,none⟩) 0 0]
inductive Ty where
 | bool
 | int (k:IntKind)
 | lf (l:Lf)
 | list (t:Ty)
 | arr (n:Nat) (t:Ty)
 | pair (a b:Ty)
 | unit
 | ref (t:Ty)
 | clo (f:Nat) (t:Ty)
 | nls (t:Ty)
 deriving DecidableEq
def Ty.den:Ty->Type
 | .bool=>Bool
 | .int _=>Int
 | .lf l=>l.den
 | .list t=>List t.den
 | .arr _ t=>List t.den
 | .pair a b=>a.den × b.den
 | .unit=>Unit
 | .ref t=>t.den
 | .clo _ t=>t.den
 | .nls t=>Option (List t.den)
def Ty.n:Ty->Nat
 | .lf l=>l.n
 | .arr n t=>n*t.n
 | .pair a b=>a.n+b.n
 | .unit=>0
 | _=>1
def Ty.agg:Ty->Bool
 | .lf l=>l.agg
 | .arr _ _=>true
 | .pair _ _=>true
 | .unit=>true
 | _=>false
def chunks {α:Type} (R:List Value->α->Prop):List Value->List α->Prop
 | cs,[]=>cs=[]
 | cs,y::ys=>∃ c1 c2,cs=c1++c2/\R c1 y/\chunks R c2 ys
def rep (F:Nat->Prop) (w:World):(t:Ty)->List Value->t.den->Prop
 | .bool,cs,x=>cs=[.bool x]
 | .int k,cs,x=>cs=[.int k x]
 | .lf l,cs,x=>Lf.rep w cs l x
 | .list t,cs,x=>∃ p c,cs=[.slice p (List.length (α:=t.den) x) c]/\List.length (α:=t.den) x<=c/\c<=9223372036854775807/\((x:List t.den)=[]\/∃ b o ds,p=some ⟨b,o,none⟩/\F b/\w.rangeAt b o ds/\chunks (rep F w t) ds x)
 | .arr n t,cs,x=>List.length (α:=t.den) x=n/\chunks (rep F w t) cs x
 | .pair a b,cs,x=>∃ c1 c2,cs=c1++c2/\rep F w a c1 x.1/\rep F w b c2 x.2
 | .unit,cs,_=>cs=[]
 | .ref t,cs,x=>∃ b o ds,cs=[.pointer (some ⟨b,o,none⟩)]/\F b/\w.rangeAt b o ds/\rep F w t ds x
 | .clo f t,cs,x=>∃ ds,cs=[.func (.func f) #[] ds.toArray]/\rep F w t ds x
 | .nls t,cs,x=>(x=(none:Option (List t.den))/\cs=[.slice none 0 0])\/∃ (ys:List t.den) (b o c:Nat) (ds:List Value),x=some ys/\cs=[.slice (some ⟨b,o,none⟩) ys.length c]/\ys.length<=c/\c<=9223372036854775807/\(ys=[]\/F b/\w.rangeAt b o ds/\chunks (rep F w t) ds ys)
theorem aW {α:Type} {R R':List Value->α->Prop} (h:∀ c y,R c y->R' c y):∀ (xs:List α) (cs:List Value),chunks R cs xs->chunks R' cs xs
 | [],_,hc=>hc
 | _::xs,_,⟨c1,c2,h1,h2,h3⟩=>⟨c1,c2,h1,h _ _ h2,aW h xs c2 h3⟩
theorem kZ {F:Nat->Prop} {w w':World} (hs:iP F w w') {b o:Nat} {ds:List Value} (hF:F b) (h:w.rangeAt b o ds):w'.rangeAt b o ds:=fun j v hv=>(Dp (w:=w) (hs.blk b hF)).trans (h j v hv)
theorem Lf.stay {F:Nat->Prop} {w w':World} (hs:iP F w w') {cs:List Value}:{l:Lf}->{x:l.den}->Lf.rep w cs l x->Lf.rep w' cs l x
 | .rat,_,h=>RQ.stay h hs
 | .big,_,h=>dX.stay h hs
 | .iL,_,⟨b,p,c,b',p',c',h1,h2,h3,h4⟩=>⟨b,p,c,b',p',c',h1,h2.stay hs,h3.stay hs,h4.stay hs⟩
 | .FI,_,⟨b,p,c,h1,h2,h3⟩=>⟨b,p,c,h1,h2.stay hs,h3.stay hs⟩
 | .str,_,h=>h
 | .grp,_,⟨b,s,h1,h2⟩=>⟨b,s,h1,h2.stay hs⟩
 | .gsl,_,⟨s,h1,h2⟩=>⟨s,h1,h2.stay hs⟩
 | .OA,_,⟨b,o,h1,h2⟩=>⟨b,o,h1,hs.dig _ _ _ h2⟩
 | .esl,_,h=>h
theorem bW {F F':Nat->Prop} {w w':World} (hF:∀ b,F b->F' b) (hs:iP F w w'):(t:Ty)->(cs:List Value)->(x:t.den)->rep F w t cs x->rep F' w' t cs x
 | .bool,_,_,h=>h
 | .int _,_,_,h=>h
 | .lf _,_,_,h=>Lf.stay hs h
 | .list t,_,x,⟨p,c,h1,h2,h3,h4⟩=>⟨p,c,h1,h2,h3,h4.imp id fun⟨b,o,ds,k1,k2,k3,k4⟩=>⟨b,o,ds,k1,hF b k2,kZ hs k2 k3,aW (fun c y=>bW hF hs t c y) _ _ k4⟩⟩
 | .arr n t,_,_,⟨h1,h2⟩=>⟨h1,aW (fun c y=>bW hF hs t c y) _ _ h2⟩
 | .pair a b,_,_,⟨c1,c2,h1,h2,h3⟩=>⟨c1,c2,h1,bW hF hs a _ _ h2,bW hF hs b _ _ h3⟩
 | .unit,_,_,h=>h
 | .ref t,_,_,⟨b,o,ds,h1,h2,h3,h4⟩=>⟨b,o,ds,h1,hF b h2,kZ hs h2 h3,bW hF hs t _ _ h4⟩
 | .clo _ t,_,_,⟨ds,h1,h2⟩=>⟨ds,h1,bW hF hs t _ _ h2⟩
 | .nls t,_,_,h=>h.imp id fun⟨ys,b,o,c,ds,h1,h2,h3,h4,h5⟩=>⟨ys,b,o,c,ds,h1,h2,h3,h4,h5.imp id fun⟨k2,k3,k4⟩=>⟨hF b k2,kZ hs k2 k3,aW (fun c y=>bW hF hs t c y) _ _ k4⟩⟩
theorem Lf.len {w:World} {cs:List Value}:{l:Lf}->{x:l.den}->Lf.rep w cs l x->cs.length=l.n
 | .rat,_,h=>by
  obtain⟨_,_,_,_,h1,_⟩:=h
  rw[Value.agg.injEq] at h1
  have:=vg Array.size h1
  simpa [Lf.n] using this
 | .big,_,h=>by
  obtain⟨_,h1,_⟩:=h
  rw[Value.agg.injEq] at h1
  have:=vg Array.size h1
  simpa [Lf.n] using this
 | .iL,_,⟨_,_,_,_,_,_,h1,_⟩=>by rw[h1];rfl
 | .FI,_,⟨_,_,_,h1,_⟩=>by rw[h1];rfl
 | .str,_,h=>by rw[show cs=_ from h];rfl
 | .grp,_,⟨_,_,h1,_⟩=>by rw[h1];rfl
 | .gsl,_,⟨_,h1,_⟩=>by rw[h1];rfl
 | .OA,_,⟨_,_,h1,_⟩=>by rw[h1];rfl
 | .esl,_,⟨_,h1⟩=>by rw[h1];rfl
theorem mX {α:Type} {R:List Value->α->Prop} {n:Nat} (h:∀ c y,R c y->c.length=n):∀ (xs:List α) (cs:List Value),chunks R cs xs->cs.length=xs.length*n
 | [],cs,hc=>by rw[show cs=[] from hc];simp
 | _::xs,_,⟨c1,c2,h1,h2,h3⟩=>by rw[h1,jl,h _ _ h2,mX h xs c2 h3,List.length_cons,Aa,Ep]
theorem dI {F:Nat->Prop} {w:World}:(t:Ty)->(cs:List Value)->(x:t.den)->rep F w t cs x->cs.length=t.n
 | .bool,_,_,h=>by rw[show _=_ from h];rfl
 | .int _,_,_,h=>by rw[show _=_ from h];rfl
 | .lf _,_,_,h=>Lf.len h
 | .list t,_,x,⟨p,c,h1,_⟩=>by rw[h1];rfl
 | .arr n t,_,_,⟨h1,h2⟩=>by rw[mX (fun c y=>dI t c y) _ _ h2,h1];rfl
 | .pair a b,_,_,⟨c1,c2,h1,h2,h3⟩=>by rw[h1,jl,dI a _ _ h2,dI b _ _ h3];rfl
 | .unit,_,_,h=>by rw[show _=_ from h];rfl
 | .ref t,_,_,⟨b,o,ds,h1,_⟩=>by rw[h1];rfl
 | .clo _ t,_,_,⟨ds,h1,_⟩=>by rw[h1];rfl
 | .nls t,_,_,h=>by rcases h with⟨_,rfl⟩|⟨ys,b,o,c,ds,_,rfl,_⟩<;>rfl
def cO (v:Value):Bool:=v.oneCell'&&dA v
def Ty.still:Ty->Bool
 | .int .u32=>false
 | .arr _ t=>t.still
 | .pair a b=>a.still&&b.still
 | _=>true
theorem Lf.ok {w:World} {cs:List Value}:{l:Lf}->{x:l.den}->Lf.rep w cs l x->∀ v ∈ cs,cO v=true
 | .rat,_,h=>by
  obtain⟨b,p,n,c,b',p',n',c',h1⟩:=RQ.form h
  rw[Value.agg.injEq] at h1
  rw[show cs=[.bool b,.slice p n c,.bool b',.slice p' n' c'] by simpa using vg Array.toList h1]
  simp[cO,dA,Value.oneCell']
 | .big,_,h=>by
  obtain⟨b,p,n,c,h1⟩:=dX.form h
  rw[Value.agg.injEq] at h1
  rw[show cs=[.bool b,.slice p n c] by simpa using vg Array.toList h1]
  simp[cO,dA,Value.oneCell']
 | .iL,_,⟨_,_,_,_,_,_,h1,_⟩=>by rw[h1];simp[cO,dA,Value.oneCell']
 | .FI,_,⟨_,_,_,h1,_⟩=>by rw[h1];simp[cO,dA,Value.oneCell']
 | .str,_,h=>by rw[show cs=_ from h];simp[cO,dA,Value.oneCell']
 | .grp,_,⟨_,s,h1,h2⟩=>by
  obtain⟨p,c,rfl,_⟩:=h2.form
  rw[h1];simp[cO,dA,Value.oneCell']
 | .gsl,_,⟨s,h1,h2⟩=>by
  obtain⟨p,c,rfl,_⟩:=h2.form
  rw[h1];simp[cO,dA,Value.oneCell']
 | .OA,_,⟨_,_,h1,_⟩=>by rw[h1];simp[cO,dA,Value.oneCell']
 | .esl,_,⟨_,h1⟩=>by rw[h1];simp[cO,dA,Value.oneCell']
theorem CB {α:Type} {R:List Value->α->Prop} {p:Value->Bool} (h:∀ c y,R c y->∀ v ∈ c,p v=true):∀ (xs:List α) (cs:List Value),chunks R cs xs->∀ v ∈ cs,p v=true
 | [],cs,hc=>by rw[show cs=[] from hc];simp
 | _::xs,_,⟨c1,c2,h1,h2,h3⟩=>by
  rw[h1]
  intro v hv
  rcases um.1 hv with hv|hv
  ·grind
  ·exact CB h xs c2 h3 v hv
theorem xR {F:Nat->Prop} {w:World}:(t:Ty)->t.still=true->(cs:List Value)->(x:t.den)->rep F w t cs x->∀ v ∈ cs,cO v=true
 | .bool,_,_,_,h=>by rw[show _=_ from h];simp[cO,dA,Value.oneCell']
 | .int k,hk,_,_,h=>by
  rw[show _=_ from h]
  cases k<;>simp_all [cO,dA,Value.oneCell',Ty.still]
 | .lf _,_,_,_,h=>Lf.ok h
 | .list t,_,_,x,⟨p,c,h1,_⟩=>by rw[h1];simp[cO,dA,Value.oneCell']
 | .arr n t,hk,_,_,⟨h1,h2⟩=>CB (fun c y=>xR t hk c y) _ _ h2
 | .pair a b,hk,_,_,⟨c1,c2,h1,h2,h3⟩=>by
  simp only[Ty.still,au] at hk
  rw[h1]
  intro v hv
  rcases um.1 hv with hv|hv
  ·exact xR a hk.1 _ _ h2 v hv
  ·exact xR b hk.2 _ _ h3 v hv
 | .unit,_,_,_,h=>by rw[show _=_ from h];simp
 | .ref t,_,_,_,⟨b,o,ds,h1,_⟩=>by rw[h1];simp[cO,dA,Value.oneCell']
 | .clo _ t,_,_,_,⟨ds,h1,_⟩=>by rw[h1];simp[cO,dA,Value.oneCell']
 | .nls t,_,_,_,h=>by rcases h with⟨_,rfl⟩|⟨ys,b,o,c,ds,_,rfl,_⟩<;>simp[cO,dA,Value.oneCell']
def Ty.zero:(t:Ty)->t.den
 | .bool=>false
 | .int _=>(0:Int)
 | .lf l=>l.zero
 | .list _=>[]
 | .arr n t=>List.replicate n t.zero
 | .pair a b=>(a.zero,b.zero)
 | .unit=>()
 | .ref t=>t.zero
 | .clo _ t=>t.zero
 | .nls _=>none
theorem WI {α:Type} {R:List Value->α->Prop} {n:Nat} (h:∀ c y,R c y->c.length=n):∀ (xs:List α) (cs:List Value),chunks R cs xs->∀ (i:Nat) (d:α),i<xs.length->∃ c,(cs.drop (i*n)).take n=c/\R c (xs.getD i d)
 | x::xs,_,⟨c1,c2,h1,h2,h3⟩,0,d,_=>⟨c1,by rw[h1,Nat.zero_mul,List.drop_zero,<-h _ _ h2,Ce],h2⟩
 | x::xs,_,⟨c1,c2,h1,h2,h3⟩,i+1,d,hi=>by
  obtain⟨c,k1,k2⟩:=WI h xs c2 h3 i d (by simpa using hi)
  refine⟨c,?_,k2⟩
  rw[h1,Aa,Ep,<-Dz,<-h _ _ h2,Az,h _ _ h2]
  exact k1
theorem xQ {w:World} {b o:Nat} {ds:List Value} (h:w.rangeAt b o ds) (k n:Nat):w.rangeAt b (o+k) ((ds.drop k).take n):=fun j v hv=>by
 have h1:ds[k+j]?=some v:=by
  rw[List.getElem?_take] at hv
  split at hv
  ·grind
  ·cases hv
 have:=h (k+j) v h1
 grind
end Go.Proofs.YtbkocjmmbkifjaaGreat
