/-
  Lemmas for the theorem vdecomposes28_holds, part 5 of 34.
-/
import Derived.Deep.MidRow
import Derived.Test.YtbkocjmmbkifjaaGreatQd04
namespace Go.Proofs.YtbkocjmmbkifjaaGreat
open Go Go.RowKit
theorem qp:type_of% @World.cell?_setCell_far:=@World.cell?_setCell_far
theorem zf:type_of% @Nat.succ_mul:=@Nat.succ_mul
theorem Cb:type_of% @List.take_left:=@List.take_left
theorem Dx:type_of% @List.drop_drop:=@List.drop_drop
theorem Ah:type_of% @List.drop_left:=@List.drop_left
set_option linter.unusedSimpArgs false
set_option linter.unusedVariables false
theorem Below.al {w w':World} (h:Below w.heap.size w w') (o:Obj):Below w.heap.size w (w'.alloc o):=h.alloc h.size o
theorem Below.tr {w w' w'':World} (h:Below w.heap.size w w') (k:Below w'.heap.size w' w''):Below w.heap.size w w'':=h.trans (k.mono h.size)
theorem Below.qZ {m:Nat} {w w':World} (h:Below m w w') (k:Nat):Below m w (w'.drewN k):=by
 induction k with
 | zero=>exact h
 | succ k ih=>exact ih.drew
theorem Bx.drewN {w:World} {b:Nat} {cs:List Value} (h:Bx w b cs) (k:Nat):Bx (w.drewN k) b cs:=h.to (Below.qZ (dh _ _) k)
theorem Rd.bW {w:World} {s:Value} {l:List Nat} (h:Rd w s l) {b:Nat} {u0 u1:Value} (q:Bx w b [u0,u1]) (h0:fC u0=true) (h1:fC u1=true) (x0 x1:Value):Rd ((w.setCell ⟨b,0,none⟩ x0).setCell ⟨b,1,none⟩ x1) s l :=
 ((h.MI (a:=⟨b,0,none⟩) (u:=u0) (by exact q.c0) h0 x0).MI (a:=⟨b,1,none⟩) (u:=u1) (by rw[World.cell?_setCell_other _ _ _ _ (by simp)];exact q.c1) h1 x1)
theorem Bx.store2 {w:World} {b:Nat} {u0 u1:Value} (h:Bx w b [u0,u1]) (x0 x1:Value):Bx ((w.setCell ⟨b,0,none⟩ x0).setCell ⟨b,1,none⟩ x1) b [x0,x1]:=by
 refine⟨by simpa [World.setCell] using h.1,fun i u hu=>?_⟩
 match i,hu with
 | 0,hu=>simp at hu;subst hu;simp[go_sem,h.c0,h.f0,h.c1,h.f1]
 | 1,hu=>simp at hu;subst hu;simp[go_sem,h.c0,h.f0,h.c1,h.f1]
 | _+2,hu=>simp at hu
theorem Bx.dX {w:World} {b':Nat} {cs:List Value} (h:Bx w b' cs) {b:Nat} (hne:b'≠b) (x0 x1:Value):Bx ((w.setCell ⟨b,0,none⟩ x0).setCell ⟨b,1,none⟩ x1) b' cs:=by
 refine⟨by simpa [World.setCell] using h.1,fun i u hu=>?_⟩
 have:=h.2 i u hu
 constructor
 ·rw[qp _ _ _ _ (fun e=>hne e.symm)];rw[qp _ _ _ _ (fun e=>hne e.symm)];exact this.1
 ·rw[wz];rw[wz];exact this.2
theorem Below.bW {m:Nat} {w' w:World} (h:Below m w' w) {b:Nat} (hb:m<=b) (x0 x1:Value):Below m w' ((w.setCell ⟨b,0,none⟩ x0).setCell ⟨b,1,none⟩ x1) :=
 ((h.setCell (p:=⟨b,0,none⟩) hb x0).setCell (p:=⟨b,1,none⟩) hb x1)
theorem dS.bW {w:World} {v:Value} {x:Int} (h:dS w v x) {b:Nat} {u0 u1:Value} (q:Bx w b [u0,u1]) (h0:fC u0=true) (h1:fC u1=true) (x0 x1:Value):dS ((w.setCell ⟨b,0,none⟩ x0).setCell ⟨b,1,none⟩ x1) v x:=by
 obtain⟨s,k1,k2⟩:=h;exact⟨s,k1,k2.bW q h0 h1 x0 x1⟩
def tY (w:World) (v:Value) (ok:Bool) (x:Int):Prop :=
 ∃ neg s l,v=.agg #[.bool neg,s]/\Rd w s l/\(∀ g ∈ l,g<4294967296)/\x=cnt neg l/\ok=KN neg l
theorem tY.raw {w:World} {v:Value} {ok:Bool} {x:Int} (h:tY w v ok x):Raw w v x:=by
 obtain⟨neg,s,l,k1,k2,k3,k4,_⟩:=h;exact⟨neg,s,l,k1,k2,k3,k4⟩
theorem tY.below {w w':World} {v:Value} {ok:Bool} {x:Int} (h:tY w v ok x) (hb:Below w.heap.size w w'):tY w' v ok x:=by
 obtain⟨neg,s,l,k1,k2,k3,k4⟩:=h;exact⟨neg,s,l,k1,k2.below hb,k3,k4⟩
theorem tY.zero {w:World} {v:Value} {x:Int} (h:tY w v false x):x=0:=by
 obtain⟨neg,s,l,k1,k2,k3,k4,k5⟩:=h;rw[k4];unfold cnt;rw[<-k5];rfl
theorem tY.int {w:World} {v:Value} {x:Int} (h:tY w v true x):dS w v x:=by
 obtain⟨neg,s,l,k1,k2,k3,k4,k5⟩:=h
 have hd:=ZV neg l
 have hc:cgs neg l=l:=by unfold cgs;rw[<-k5];rfl
 rw[hc,<-k4] at hd
 refine⟨s,?_,by rw[hd];exact k2⟩
 rw[k1]
 by_cases hx:x=0
 ·have hl:l=[]:=by rw[<-hd,hx];simp[eH]
  have:=(KO.1 k5.symm).2 hl
  rw[this,hx];simp
 ·have:=a1b (neg:=neg) (l:=l) (by rw[<-k4];exact hx)
  rw[<-k4] at this;rw[<-this]
theorem dS.a7w {w:World} {v:Value} {x:Int} (h:dS w v x):tY w v true x:=by
 obtain⟨s,h1,h2⟩:=h
 exact⟨_,s,_,h1,h2,fun g hg=>by have:=bC _ g hg;rw[bM] at this;omega,(a4L x).symm,(a2I x).symm⟩
theorem Raw.len {w:World} {b:Bool} {p:Option Addr} {n c:Nat} {x:Int} (h:Raw w (.agg #[.bool b,.slice p n c]) x):isz x<=n:=by
 obtain⟨neg,s,l,k1,k2,k3,k4⟩:=h
 cases k1
 obtain⟨p',c',e,_⟩:=k2.form
 cases e
 unfold isz nsz
 rw[k4,ZV]
 unfold cgs
 split
 ·exact aj _
 ·simp
def RQ (w:World) (v:Value) (q:Rat):Prop:=∃ b s c t,v=.agg #[b,s,c,t]/\dS w (.agg #[b,s]) q.num/\dS w (.agg #[c,t]) (q.den:Int)
theorem RQ.mk' {w:World} {b s c t:Value} {q:Rat} {n d:Int} (h1:dS w (.agg #[b,s]) n) (h2:dS w (.agg #[c,t]) d) (hn:n=q.num) (hd:d=(q.den:Int)):RQ w (.agg #[b,s,c,t]) q :=
 ⟨b,s,c,t,rfl,hn ▸ h1,hd ▸ h2⟩
theorem RQ.form {w:World} {v:Value} {q:Rat} (h:RQ w v q):∃ b p n c b' p' n' c',v=.agg #[.bool b,.slice p n c,.bool b',.slice p' n' c']:=by
 obtain⟨b,s,c,t,e,h1,h2⟩:=h
 obtain⟨_,_,_,_,e1⟩:=h1.form
 obtain⟨_,_,_,_,e2⟩:=h2.form
 cases e1;cases e2
 exact⟨_,_,_,_,_,_,_,_,e⟩
def OD (w:World) (v:Value) (ok:Bool) (q:Rat):Prop :=
 ∃ b s c t o1 o2 n d,v=.agg #[b,s,c,t]/\tY w (.agg #[b,s]) o1 n/\tY w (.agg #[c,t]) o2 d/\ok=(o1&&(o2&&(decide (0<d)&&decide (Int.gcd n d=1))))/\q=if ok then Rat.divInt n d else 0
theorem OD.rq {w:World} {v:Value} {q:Rat} (h:OD w v true q):RQ w v q:=by
 obtain⟨b,s,c,t,o1,o2,n,d,e,h1,h2,h3,h4⟩:=h
 simp only[Bool.true_eq,ay,gy] at h3
 obtain⟨rfl,rfl,hd,hg⟩:=h3
 rw[iw rfl] at h4
 subst h4
 rw[e]
 exact RQ.mk' h1.int h2.int (RG hd hg).symm (RD hd hg).symm
theorem OD.no {w:World} {v:Value} {q:Rat} (h:OD w v false q):q=0:=by
 obtain⟨b,s,c,t,o1,o2,n,d,e,h1,h2,h3,h4⟩:=h
 simpa using h4
theorem RQ.raw {w:World} {v:Value} {q:Rat} (h:RQ w v q):OD w v true q:=by
 obtain⟨b,s,c,t,e,h1,h2⟩:=h
 refine⟨b,s,c,t,true,true,_,_,e,h1.a7w,h2.a7w,?_,?_⟩
 ·simp[JW];exact Nat.pos_of_ne_zero q.den_nz
 ·rw[iw rfl,Rat.num_divInt_den]
set_option maxRecDepth 20000
theorem bx1 (w:World) {n:Nat} (h:w.heap.size=n) (c0:List Value) (t0:TypeId):Below w.heap.size w (w.alloc (.cells c0.toArray t0))/\Bx (w.alloc (.cells c0.toArray t0)) (n) c0:=by
 subst h
 exact⟨(dh _ _).alloc (aj _) _,by have:=(Bx.new w c0 t0);simpa using this⟩
theorem bx2 (w:World) {n:Nat} (h:w.heap.size=n) (c0:List Value) (t0:TypeId) (c1:List Value) (t1:TypeId):Below w.heap.size w ((w.alloc (.cells c0.toArray t0)).alloc (.cells c1.toArray t1))/\Bx ((w.alloc (.cells c0.toArray t0)).alloc (.cells c1.toArray t1)) (n) c0/\Bx ((w.alloc (.cells c0.toArray t0)).alloc (.cells c1.toArray t1)) (n+1) c1:=by
 subst h
 exact⟨Below.al ((dh _ _).alloc (aj _) _) _,by have:=((Bx.new w c0 t0).alloc (.cells c1.toArray t1));simpa using this,by have:=(Bx.new (w.alloc (.cells c0.toArray t0)) c1 t1);simpa using this⟩
theorem bx3 (w:World) {n:Nat} (h:w.heap.size=n) (c0:List Value) (t0:TypeId) (c1:List Value) (t1:TypeId) (c2:List Value) (t2:TypeId):Below w.heap.size w (((w.alloc (.cells c0.toArray t0)).alloc (.cells c1.toArray t1)).alloc (.cells c2.toArray t2))/\Bx (((w.alloc (.cells c0.toArray t0)).alloc (.cells c1.toArray t1)).alloc (.cells c2.toArray t2)) (n) c0/\Bx (((w.alloc (.cells c0.toArray t0)).alloc (.cells c1.toArray t1)).alloc (.cells c2.toArray t2)) (n+1) c1/\Bx (((w.alloc (.cells c0.toArray t0)).alloc (.cells c1.toArray t1)).alloc (.cells c2.toArray t2)) (n+1+1) c2:=by
 subst h
 exact⟨Below.al (Below.al ((dh _ _).alloc (aj _) _) _) _,by have:=(((Bx.new w c0 t0).alloc (.cells c1.toArray t1)).alloc (.cells c2.toArray t2));simpa using this,by have:=((Bx.new (w.alloc (.cells c0.toArray t0)) c1 t1).alloc (.cells c2.toArray t2));simpa using this,by have:=(Bx.new ((w.alloc (.cells c0.toArray t0)).alloc (.cells c1.toArray t1)) c2 t2);simpa using this⟩
theorem Bx.cs2 {w:World} {b:Nat} {u0 u1:Value} (h:Bx w b [u0,u1]):w.cell? ⟨b,0,none⟩=some u0/\w.cell? ⟨b,1,none⟩=some u1 :=
 ⟨(h.2 0 u0 rfl).1,(h.2 1 u1 rfl).1⟩
theorem Bx.cf2 {w:World} {b:Nat} {u0 u1:Value} (h:Bx w b [u0,u1]):w.cell? ⟨b,0,none⟩=some u0/\w.frozen? ⟨b,0,none⟩=false/\w.cell? ⟨b,1,none⟩=some u1/\w.frozen? ⟨b,1,none⟩=false :=
 ⟨(h.2 0 u0 rfl).1,(h.2 0 u0 rfl).2,(h.2 1 u1 rfl).1,(h.2 1 u1 rfl).2⟩
def yT (S:World->Prop):Prop:=∀ A B:World,S A->Below A.heap.size A B->S B
def tX (b:Nat) (S:World->Prop):Prop:=∀ (A:World) (j:Nat) (x:Value),S A->S (A.setCell ⟨b,j,none⟩ x)
theorem yT.go {S:World->Prop} (h:yT S) {A B:World} (hS:S A) (hb:Below A.heap.size A B):S B:=h A B hS hb
theorem tX.go2 {S:World->Prop} {b:Nat} (h:tX b S) {A:World} {x0 x1:Value} (hS:S A):S ((A.setCell ⟨b,0,none⟩ x0).setCell ⟨b,1,none⟩ x1):=(h _ _ _ (h _ _ _ hS))
abbrev iI (S T:World->Prop) (w:World):Prop:=S w/\T w
theorem iI.mk {S T:World->Prop} {w:World} (x:S w) (y:T w):iI S T w:=⟨x,y⟩
theorem iI.hk {S T:World->Prop} (h:yT S) (h':yT T):yT (iI S T):=fun A B x hb=>⟨h A B x.1 hb,h' A B x.2 hb⟩
theorem iI.hc {S T:World->Prop} {b:Nat} (h:tX b S) (h':tX b T):tX b (iI S T):=fun A j v x=>⟨h A j v x.1,h' A j v x.2⟩
abbrev BN (b:Nat) (w:World):Prop:=b<w.heap.size
theorem BN.of {w:World} {b:Nat} {cs:List Value} (h:Bx w b cs):BN b w:=h.1
theorem BN.hk {b:Nat}:yT (BN b):=fun A B x hb=>mg x hb.size
theorem BN.hc {b b':Nat}:tX b' (BN b):=fun A j v x=>by simpa [World.setCell] using x
abbrev BS2 (b:Nat) (u0 u1:Value) (w:World):Prop:=w.cell? ⟨b,0,none⟩=some u0/\w.cell? ⟨b,1,none⟩=some u1/\b<w.heap.size
theorem Bx.bs2 {w:World} {b:Nat} {u0 u1:Value} (h:Bx w b [u0,u1]):BS2 b u0 u1 w:=⟨(h.2 0 u0 rfl).1,(h.2 1 u1 rfl).1,h.1⟩
theorem BS2.hk {b:Nat} {u0 u1:Value}:yT (BS2 b u0 u1):=fun A B ⟨h0,h1,hl⟩ hb=>⟨((yU hb).1 _ _ hl).trans h0,((yU hb).1 _ _ hl).trans h1,mg hl hb.size⟩
theorem BS2.hc {b b':Nat} {u0 u1:Value} (h:b≠b'):tX b' (BS2 b u0 u1):=fun A j v ⟨h0,h1,hl⟩=>⟨(qp _ _ _ _ (fun e=>h e.symm)).trans h0,(qp _ _ _ _ (fun e=>h e.symm)).trans h1,by simpa [World.setCell] using hl⟩
set_option maxRecDepth 100000
set_option maxHeartbeats 2000000
theorem Canon.pos {b:List Nat} (hb:Canon b) (h:b≠[]):0<val b:=by
 rcases Aj (val b) with h0|h0
 ·have:=dR hb
  rw[h0,eH] at this
  exact absurd this.symm h
 ·exact h0
def ZB (l m:List Nat) (w:World) (e:Ending) (w':World):Prop:=∃ v1 v2,e=.returned (.tuple #[v1,v2])/\Rd w' v1 l/\Rd w' v2 m/\Below w.heap.size w w'
theorem b4z (s t:Value) (a b:List Nat) (w:World) (hs:Rd w s a) (ht:Rd w t b) (ha:Canon a) (hb:Canon b) (la:a.length<=1000000000) (hb0:b≠[]) (hlt:val a<val b) :
  Calls Tryz.prog 251 #[s,t] w (ZB (dig (val a / val b)) (dig (val a%val b)) w):=by
 have hbp:=hb.pos hb0
 obtain⟨p,c,rfl,hc1,hc2⟩:=hs.form
 obtain⟨q,d,rfl,hd1,hd2⟩:=ht.form
 have HX:Hid (dig (val a / val b)=[]/\dig (val a%val b)=a):=by
  refine⟨by rw[Du hlt,eH],by rw[Dt hlt,dR ha]⟩
 have hcv:bK (val a) (val b)=-1:=by unfold bK;rw[iw (by omega)]
 have HCV:=bg hcv
 clear hcv hlt hbp
 go_enter Tryz.func251,Tryz.ntmps251
 go_wp2_with fail
 refine(kY _ _ a b _ hs ht ha hb).mono ?_
 rw[HCV.out]
 rintro e w1 ⟨rfl,hb1⟩
 go_wp2_with fail
 go_ret2
 exact⟨_,_,rfl,by rw[HX.out.1];exact Rd.nil _,by rw[HX.out.2];exact hs.below hb1,hb1⟩
theorem a3A (s t:Value) (a b:List Nat) (w:World) (hs:Rd w s a) (ht:Rd w t b) (ha:Canon a) (hb:Canon b) (la:a.length<=1000000000) (hb0:b≠[]) (hle:val b<=val a) (ha2:a.length<=2) :
  Calls Tryz.prog 251 #[s,t] w (ZB (dig (val a / val b)) (dig (val a%val b)) w):=by
 have hbp:=hb.pos hb0
 obtain⟨p,c,rfl,hc1,hc2⟩:=hs.form
 obtain⟨q,d,rfl,hd1,hd2⟩:=ht.form
 have hlen:b.length<=a.length:=by
  have:=aQ hle
  rwa [dR ha,dR hb] at this
 have hb1':1<=b.length:=xq.2 hb0
 have hc:0<=bK (val a) (val b):=by unfold bK;rw[eu (by omega)];split<;>omega
 obtain⟨cv,hcv⟩:∃ cv,bK (val a) (val b)=cv:=⟨_,rfl⟩
 rw[hcv] at hc
 have hdc:decide (cv<0)=false:=by simpa using hc
 have HCV:=bg hcv
 have HLE:=bg hle
 have HBP:=bg hbp
 clear hcv hle hbp hc
 have hb2:b.length<=2:=by omega
 have hA:val a<=999999999999999999:=by
  have h1:=kK ha.1
  have h2:BB ^ a.length<=BB ^ 2:=uw fV ha2
  rw[bM] at h1 h2
  omega
 have hbv:0<val b:=HBP.out
 have c3i:val b<=val a:=HLE.out
 obtain⟨A,hA'⟩:∃ A,val a=A:=⟨_,rfl⟩
 obtain⟨B,hB'⟩:∃ B,val b=B:=⟨_,rfl⟩
 rw[hA'] at hA c3i ⊢
 rw[hB'] at hbv c3i ⊢
 have hq1:A / B<=A:=Cj _ _
 have hr1:A%B<B:=Ae _ hbv
 obtain⟨Q,hQ⟩:∃ Q,A / B=Q:=⟨_,rfl⟩
 obtain⟨R,hR⟩:∃ R,A%B=R:=⟨_,rfl⟩
 rw[hQ] at hq1 ⊢
 rw[hR] at hr1 ⊢
 have i1:(A:Int) / B=Q:=by rw[<-hQ];simp
 have i2:(A:Int)%B=R:=by rw[<-hR];simp
 have i3:(A:Int).tmod B=R:=by rw[wu (by omega)];exact i2
 have w1:IntKind.u64.wrap (Q:Int)=Q:=wrap_u64 (by omega)
 have w2:IntKind.u64.wrap (R:Int)=R:=wrap_u64 (by omega)
 have hdz:((B:Int)==0)=false:=by simp;omega
 have hdn:¬ B=0:=by omega
 have a9E:=fun w=>UC (n:=A) (d:=B) (v:=Q) (by omega) hA i1 w1 w
 have b3F:=fun w=>UF (n:=A) (d:=B) (v:=R) (by omega) hA i2 w2 w
 have HAB:=bg (And.intro hA' hB')
 clear hQ hR hA' hB'
 go_enter Tryz.func251,Tryz.ntmps251
 go_wp2_with fail
 refine(kY _ _ a b _ hs ht ha hb).mono ?_
 rw[HCV.out]
 rintro e w1 ⟨rfl,hb1⟩
 go_wp2_with fail
 refine(BZ _ a _ (hs.below hb1) ha.1 ha2).mono ?_
 rw[HAB.out.1]
 rintro e w2 ⟨rfl,hb2'⟩
 go_wp2_with fail
 refine(BZ _ b _ ((ht.below hb1).below hb2') hb.1 hb2).mono ?_
 rw[HAB.out.2]
 rintro e w3 ⟨rfl,hb3⟩
 have hB3:=(hb1.trans (hb2'.mono hb1.size)).trans (hb3.mono (ak hb1.size hb2'.size))
 have tk1:True:=trivial
 have hz3:=hB3.size
 go_wp2_with fail
 have S0:(fun _:World=>True) w3.drew:=trivial
 go_region_held3 (fun _:World=>True) (trivial)
  (first
   | (have:=tk1;clear tk1;go_at_call 247;(with_reducible refine(tJ Q _ (by omega)).mono ?_);rintro e w4 ⟨v4,rfl,ho4,hb4⟩)
   | (go_at_call 247;(with_reducible refine(tJ R _ (by omega)).mono ?_);rintro e w5 ⟨v5,rfl,ho5,hb5⟩))
 go_wp2_with fail
 go_ret2
 exact⟨_,_,rfl,(Rd.dO ho4).below hb5,Rd.dO ho5,(hB3.drew.trans (hb4.mono hz3)).trans (hb5.mono (ak hz3 hb4.size))⟩
theorem b0P (s t:Value) (a b:List Nat) (w:World) (hs:Rd w s a) (ht:Rd w t b) (ha:Canon a) (hb:Canon b) (la:a.length<=1000000000) (hb0:b≠[]) (hle:val b<=val a) (ha3:2<a.length) (XE:b.length=1) :
  Calls Tryz.prog 251 #[s,t] w (ZB (dig (val a / val b)) (dig (val a%val b)) w):=by
 have hbp:=hb.pos hb0
 obtain⟨p,c,rfl,hc1,hc2⟩:=hs.form
 obtain⟨q,d,rfl,hd1,hd2⟩:=ht.form
 have hlen:b.length<=a.length:=by
  have:=aQ hle
  rwa [dR ha,dR hb] at this
 have hb1':1<=b.length:=xq.2 hb0
 have hc:0<=bK (val a) (val b):=by unfold bK;rw[eu (by omega)];split<;>omega
 obtain⟨cv,hcv⟩:∃ cv,bK (val a) (val b)=cv:=⟨_,rfl⟩
 rw[hcv] at hc
 have hdc:decide (cv<0)=false:=by simpa using hc
 have HCV:=bg hcv
 have HLE:=bg hle
 have HBP:=bg hbp
 clear hcv hle hbp hc
 obtain⟨d0,rfl⟩:∃ d0,b=[d0]:=by
  cases b with
  | nil=>simp at XE
  | cons x t=>cases t with
   | nil=>exact⟨x,rfl⟩
   | cons=>simp at XE
 have ht':Rd w (.slice q 1 d) [d0]:=ht
 show Calls Tryz.prog 251 #[.slice p a.length c,.slice q 1 d] w _
 obtain⟨gb,ob,rfl,hgb,hcb⟩:=ht'.at (by simp)
 have hc0:w.cell? ⟨gb,ob,none⟩=some (.int .u32 (d0:Nat)):=by simpa [gr] using hcb 0 (by simp)
 have b7s:d0<=999999999:=by have:=hb.1 d0 (by simp);rw[bM] at this;omega
 have hvd:val [d0]=d0:=by simp[bU]
 have hd0:1<=d0:=by have:=HBP.out;rw[hvd] at this;exact this
 have hr0:val a%d0<d0:=Ae _ hd0
 have HVD:=bg hvd
 clear hvd hcb XE
 go_enter Tryz.func251,Tryz.ntmps251
 go_wp2_with fail
 refine(kY _ _ a [d0] _ hs ht' ha hb).mono ?_
 rw[HCV.out]
 rintro e w1 ⟨rfl,hb1⟩
 go_wp2_with fail
 refine(QF _ a _ (hs.below hb1) ha3).mono ?_
 rintro e w2 ⟨rfl,hb2'⟩
 go_wp2_with fail
 refine(BZ _ [d0] _ ((ht'.below hb1).below hb2') hb.1 (by simp)).mono ?_
 rintro e w3 ⟨rfl,hb3⟩
 have hB3:=(hb1.trans (hb2'.mono hb1.size)).trans (hb3.mono (ak hb1.size hb2'.size))
 have hc3:w3.cell? ⟨gb,ob,none⟩=some (.int .u32 (d0:Nat)):=(hB3.cell (p:=⟨gb,ob,none⟩) hgb).trans hc0
 have hs3:=hs.below hB3
 have hz3:=hB3.size
 go_wp2_with fail
 refine(short_any _ a d0 _ hs3 ha.1 hd0 b7s (by omega)).mono ?_
 rintro e w4 ⟨v4,rfl,ho4,hb4⟩
 obtain⟨R,hR⟩:∃ R,val a%d0=R:=⟨_,rfl⟩
 rw[hR] at hr0 ⊢
 have HR:=bg hR
 clear hR
 go_wp2_with fail
 refine(tJ R _ (by omega)).mono ?_
 rintro e w5 ⟨v5,rfl,ho5,hb5⟩
 go_wp2_with fail
 go_ret2
 exact⟨_,_,rfl,by rw[HVD.out];exact(Rd.dO ho4).below hb5,by rw[HVD.out,HR.out];exact Rd.dO ho5,(hB3.trans (hb4.mono hz3)).trans (hb5.mono (ak hz3 hb4.size))⟩
theorem a7n (s t:Value) (a b:List Nat) (w:World) (hs:Rd w s a) (ht:Rd w t b) (ha:Canon a) (hb:Canon b) (la:a.length<=1000000000) (hb0:b≠[]) (hle:val b<=val a) (ha3:2<a.length) (XE:b.length≠1) :
  Calls Tryz.prog 251 #[s,t] w (ZB (dig (val a / val b)) (dig (val a%val b)) w):=by
 have hbp:=hb.pos hb0
 obtain⟨p,c,rfl,hc1,hc2⟩:=hs.form
 obtain⟨q,d,rfl,hd1,hd2⟩:=ht.form
 have hlen:b.length<=a.length:=by
  have:=aQ hle
  rwa [dR ha,dR hb] at this
 have hb1':1<=b.length:=xq.2 hb0
 have hc:0<=bK (val a) (val b):=by unfold bK;rw[eu (by omega)];split<;>omega
 obtain⟨cv,hcv⟩:∃ cv,bK (val a) (val b)=cv:=⟨_,rfl⟩
 rw[hcv] at hc
 have hdc:decide (cv<0)=false:=by simpa using hc
 have HCV:=bg hcv
 have HLE:=bg hle
 have HBP:=bg hbp
 clear hcv hle hbp hc
 have hb2:2<=b.length:=by omega
 have hne:((b.length:Int)==1)=false:=by simp;omega
 have hz:=fun(w3:World) (hB3:Below w.heap.size w w3)=>b0s _ _ a b w3 (hs.below hB3) (ht.below hB3) ha hb la hb2 HLE.out
 have HZ:=bg hz
 have HN1:=bg XE
 clear hz XE
 by_cases hb3:b.length<=2
 all_goals
  go_enter Tryz.func251,Tryz.ntmps251
  go_wp2_with fail
  refine(kY _ _ a b _ hs ht ha hb).mono ?_
  rw[HCV.out]
  rintro e w1 ⟨rfl,hb1⟩
  go_wp2_with fail
  refine(QF _ a _ (hs.below hb1) ha3).mono ?_
  rintro e w2 ⟨rfl,hb2'⟩
  go_wp2_with fail
  first
   |refine(BZ _ b _ ((ht.below hb1).below hb2') hb.1 hb3).mono ?_
   |refine(QF _ b _ ((ht.below hb1).below hb2') (by omega)).mono ?_
  rintro e w3 ⟨rfl,c6q⟩
  have hB3:=(hb1.trans (hb2'.mono hb1.size)).trans (c6q.mono (ak hb1.size hb2'.size))
  go_wp2_with fail
  refine(HZ.out _ hB3).mono ?_
  rintro e w4 ⟨v1,v2,rfl,hv1,hv2,hb4⟩
  go_wp2_with fail
  go_ret2
  exact⟨_,_,rfl,hv1,hv2,hB3.trans (hb4.mono hB3.size)⟩
theorem a2e (s t:Value) (a b:List Nat) (w:World) (hs:Rd w s a) (ht:Rd w t b) (ha:Canon a) (hb:Canon b) (la:a.length<=1000000000) (hb0:b≠[]) :
  Calls Tryz.prog 251 #[s,t] w (ZB (dig (val a / val b)) (dig (val a%val b)) w):=by
 by_cases hlt:val a<val b
 ·exact b4z s t a b w hs ht ha hb la hb0 hlt
 ·by_cases ha2:a.length<=2
  ·exact a3A s t a b w hs ht ha hb la hb0 (by omega) ha2
  ·by_cases h1:b.length=1
   ·exact b0P s t a b w hs ht ha hb la hb0 (by omega) (by omega) h1
   ·exact a7n s t a b w hs ht ha hb la hb0 (by omega) (by omega) h1
theorem kZ {w:World} {v:Value} {x y:Int} (h:dS w v x) (e:x=y):dS w v y:=e ▸ h
set_option maxHeartbeats 4000000
theorem gcd_zero {l1:List Nat} {x y:Int} (h:Nat.gcd (val l1) (val ([]:List Nat))=Int.gcd x y):sg false (val l1)=((Int.gcd x y:Nat):Int):=by
 rw[<-h];simp[val,sg]
theorem RV {a b g:Nat} (h:Nat.gcd a b=g):Nat.gcd b (a%b)=g:=by
 rw[<-h,Nat.gcd_comm a b,Nat.gcd_rec b a,Nat.gcd_comm]
theorem a6R (x y:Int):Hid (Nat.gcd (val (dig x.natAbs)) (val (dig y.natAbs))=Int.gcd x y):=by unfold Hid;rw[aT,aT];rfl
theorem WY {l:List Nat} (h:Canon l) (h2:l.length<=2):val l<=999999999999999999:=by
 have h1:=kK h.1
 have h3:BB ^ l.length<=BB ^ 2:=uw fV h2
 rw[bM] at h1 h3
 omega
theorem a4m (v:Value) (ok:Bool) (x:Int) (w:World) (h:tY w v ok x) :
  Calls Tryz.prog 212 #[v] w fun e w'=>e=.returned (.bool ok)/\Below w.heap.size w w':=by
 obtain⟨neg,s,l,rfl,k2,k3,k4,k5⟩:=h
 have:=MS neg s l w k2
 rw[<-k5] at this
 exact this
def sgn (x:Int):Int:=x.sign
theorem a5Y {x:Int} (h:0<x):sgn x=1:=uf h
theorem a5X {x:Int} (h:x<0):sgn x=-1:=qh h
theorem c1l {x:Int} (h:x≠0):sgn x≠0:=fun e=>h (vg.1 e)
def Qn (v:Value) (k:Nat):Prop:=∃ b p n c b' p' n' c',v=.agg #[.bool b,.slice p n c,.bool b',.slice p' n' c']/\n<=k/\n'<=k
theorem dS.len {w:World} {b:Bool} {p:Option Addr} {n c:Nat} {x:Int} (h:dS w (.agg #[.bool b,.slice p n c]) x):n=isz x:=by
 obtain⟨s,k1,k2⟩:=h
 cases k1
 obtain⟨p',c',e,_⟩:=k2.form
 cases e
 rfl
theorem RQ.a3S {w:World} {v:Value} {q:Rat} {k:Nat} (h:RQ w v q) (hn:Qn v k):rsz q<=k:=by
 obtain⟨b,s,c,t,e,h1,h2⟩:=h
 obtain⟨b1,p1,n1,c1,b2,p2,n2,c2,e1,l1,l2⟩:=hn
 rw[e1] at e
 cases e
 rw[h1.len] at l1
 rw[h2.len] at l2
 have:isz (q.den:Int)=nsz q.den:=by simp[isz]
 rw[this] at l2
 exact Nat.max_le.2 ⟨l1,l2⟩
theorem b1B:rsz 0=1:=by decide +kernel
theorem OD.a3S {w:World} {v:Value} {ok:Bool} {q:Rat} {k:Nat} (h:OD w v ok q) (hn:Qn v k) (hk:1<=k):rsz q<=k:=by
 cases ok
 ·rw[h.no,b1B];exact hk
 ·exact h.rq.a3S hn
structure jB (F:Nat->Prop) (w w':World):Prop where
 blk:∀ b,F b->w'.heap[b]?=w.heap[b]?
 dig:∀ b o n,w.cell? ⟨b,o,none⟩=some (.int .u32 n)->w'.cell? ⟨b,o,none⟩=some (.int .u32 n)
 size:w.heap.size<=w'.heap.size
theorem jB.refl (F:Nat->Prop) (w:World):jB F w w:=⟨fun _ _=>rfl,fun _ _ _ h=>h,aj _⟩
theorem jB.trans {F:Nat->Prop} {a b c:World} (h:jB F a b) (k:jB F b c):jB F a c :=
 ⟨fun q hq=>(k.blk q hq).trans (h.blk q hq),fun q o n hc=>k.dig q o n (h.dig q o n hc),ak h.size k.size⟩
theorem jB.less {F F':Nat->Prop} {a b:World} (h:jB F' a b) (hF:∀ q,F q->F' q):jB F a b:=⟨fun q hq=>h.blk q (hF q hq),h.dig,h.size⟩
theorem cell_lt {w:World} {b o:Nat} {v:Value} (h:w.cell? ⟨b,o,none⟩=some v):b<w.heap.size:=by
 simp only[World.cell?] at h
 by_cases hb:b<w.heap.size
 ·exact hb
 ·grind
theorem Rd.stay {F:Nat->Prop} {w w':World} {s:Value} {l:List Nat} (h:Rd w s l) (hs:jB F w w'):Rd w' s l:=by
 rcases h with h|⟨b,o,c,h1,h2,h3,h4,h5⟩
 ·exact .inl h
 ·exact .inr ⟨b,o,c,h1,h2,h3,mg h4 hs.size,fun i hi=>hs.dig _ _ _ (h5 i hi)⟩
theorem dS.stay {F:Nat->Prop} {w w':World} {v:Value} {x:Int} (h:dS w v x) (hs:jB F w w'):dS w' v x:=by
 obtain⟨s,h1,h2⟩:=h
 exact⟨s,h1,h2.stay hs⟩
theorem RQ.stay {F:Nat->Prop} {w w':World} {v:Value} {x:Rat} (h:RQ w v x) (hs:jB F w w'):RQ w' v x:=by
 obtain⟨b,s,c,t,h1,h2,h3⟩:=h
 exact⟨b,s,c,t,h1,h2.stay hs,h3.stay hs⟩
theorem tY.stay {F:Nat->Prop} {w w':World} {v:Value} {ok:Bool} {x:Int} (h:tY w v ok x) (hs:jB F w w'):tY w' v ok x:=by
 obtain⟨neg,s,l,h1,h2,h3⟩:=h
 exact⟨neg,s,l,h1,h2.stay hs,h3⟩
theorem OD.stay {F:Nat->Prop} {w w':World} {v:Value} {ok:Bool} {x:Rat} (h:OD w v ok x) (hs:jB F w w'):OD w' v ok x:=by
 obtain⟨b,s,c,t,o1,x1,o2,x2,h1,h2,h3,h4⟩:=h
 exact⟨b,s,c,t,o1,x1,o2,x2,h1,h2.stay hs,h3.stay hs,h4⟩
structure iG where
 ok:Bool
 x:Int
 g:List Nat
structure aG where
 ok:Bool
 x:Rat
 g:List Nat
 h:List Nat
abbrev iG.n (x:iG):Nat:=x.g.length
abbrev aG.n (x:aG):Nat:=x.g.length
abbrev aG.m (x:aG):Nat:=x.h.length
inductive Lf where
 | rat
 | big
 | gQ
 | FV
 | str
 | grp
 | gsl
 | OE
 | esl
 deriving DecidableEq
def Lf.den:Lf->Type
 | .rat=>Rat
 | .big=>Int
 | .gQ=>aG
 | .FV=>iG
 | .str=>ByteArray
 | .grp=>List Nat
 | .gsl=>List Nat
 | .OE=>Nat
 | .esl=>Unit
def Lf.n:Lf->Nat
 | .rat=>4
 | .big=>2
 | .gQ=>4
 | .FV=>2
 | .str=>1
 | .grp=>2
 | .gsl=>1
 | .OE=>1
 | .esl=>1
def Lf.agg:Lf->Bool
 | .str=>false
 | .gsl=>false
 | .OE=>false
 | .esl=>false
 | _=>true
def Lf.zero:(l:Lf)->l.den
 | .rat=>(0:Rat)
 | .big=>(0:Int)
 | .gQ=>⟨false,0,[],[]⟩
 | .FV=>⟨true,0,[]⟩
 | .str=>ByteArray.empty
 | .grp=>[]
 | .gsl=>[]
 | .OE=>(0:Nat)
 | .esl=>()
def Lf.rep (w:World) (cs:List Value):(l:Lf)->l.den->Prop
 | .rat,x=>RQ w (.agg cs.toArray) x
 | .big,x=>dS w (.agg cs.toArray) x
 | .gQ,x=>∃ b p c b' p' c',cs=[.bool b,.slice p x.n c,.bool b',.slice p' x.m c']/\OD w (.agg cs.toArray) x.ok x.x/\Rd w (.slice p x.n c) x.g/\Rd w (.slice p' x.m c') x.h
 | .FV,x=>∃ b p c,cs=[.bool b,.slice p x.n c]/\tY w (.agg cs.toArray) x.ok x.x/\Rd w (.slice p x.n c) x.g
 | .str,x=>cs=[.string x]
 | .grp,x=>∃ b s,cs=[.bool b,s]/\Rd w s x
 | .gsl,x=>∃ s,cs=[s]/\Rd w s x
 | .OE,x=>∃ b o,cs=[.pointer (some ⟨b,o,none⟩)]/\w.cell? ⟨b,o,none⟩=some (.int .u32 (Nat.cast (R:=Int) x))
 | .esl,_=>∃ b,cs=[.slice (some ⟨b,0,none⟩) 0 0]
inductive Ty where
 | bool
 | int (k:IntKind)
 | lf (l:Lf)
 | list (t:Ty)
 | arr (n:Nat) (t:Ty)
 | pair (a b:Ty)
 | unit
 | ref (t:Ty)
 | clo (f:Nat) (t:Ty)
 | nls (t:Ty)
 deriving DecidableEq
def Ty.den:Ty->Type
 | .bool=>Bool
 | .int _=>Int
 | .lf l=>l.den
 | .list t=>List t.den
 | .arr _ t=>List t.den
 | .pair a b=>a.den × b.den
 | .unit=>Unit
 | .ref t=>t.den
 | .clo _ t=>t.den
 | .nls t=>Option (List t.den)
def Ty.n:Ty->Nat
 | .lf l=>l.n
 | .arr n t=>n*t.n
 | .pair a b=>a.n+b.n
 | .unit=>0
 | _=>1
def Ty.agg:Ty->Bool
 | .lf l=>l.agg
 | .arr _ _=>true
 | .pair _ _=>true
 | .unit=>true
 | _=>false
def chunks {α:Type} (R:List Value->α->Prop):List Value->List α->Prop
 | cs,[]=>cs=[]
 | cs,y::ys=>∃ c1 c2,cs=c1++c2/\R c1 y/\chunks R c2 ys
def rep (F:Nat->Prop) (w:World):(t:Ty)->List Value->t.den->Prop
 | .bool,cs,x=>cs=[.bool x]
 | .int k,cs,x=>cs=[.int k x]
 | .lf l,cs,x=>Lf.rep w cs l x
 | .list t,cs,x=>∃ p c,cs=[.slice p (List.length (α:=t.den) x) c]/\List.length (α:=t.den) x<=c/\c<=9223372036854775807/\((x:List t.den)=[]\/∃ b o ds,p=some ⟨b,o,none⟩/\F b/\w.rangeAt b o ds/\chunks (rep F w t) ds x)
 | .arr n t,cs,x=>List.length (α:=t.den) x=n/\chunks (rep F w t) cs x
 | .pair a b,cs,x=>∃ c1 c2,cs=c1++c2/\rep F w a c1 x.1/\rep F w b c2 x.2
 | .unit,cs,_=>cs=[]
 | .ref t,cs,x=>∃ b o ds,cs=[.pointer (some ⟨b,o,none⟩)]/\F b/\w.rangeAt b o ds/\rep F w t ds x
 | .clo f t,cs,x=>∃ ds,cs=[.func (.func f) #[] ds.toArray]/\rep F w t ds x
 | .nls t,cs,x=>(x=(none:Option (List t.den))/\cs=[.slice none 0 0])\/∃ (ys:List t.den) (b o c:Nat) (ds:List Value),x=some ys/\cs=[.slice (some ⟨b,o,none⟩) ys.length c]/\ys.length<=c/\c<=9223372036854775807/\(ys=[]\/F b/\w.rangeAt b o ds/\chunks (rep F w t) ds ys)
theorem aW {α:Type} {R R':List Value->α->Prop} (h:∀ c y,R c y->R' c y):∀ (xs:List α) (cs:List Value),chunks R cs xs->chunks R' cs xs
 | [],_,hc=>hc
 | _::xs,_,⟨c1,c2,h1,h2,h3⟩=>⟨c1,c2,h1,h _ _ h2,aW h xs c2 h3⟩
theorem lG {F:Nat->Prop} {w w':World} (hs:jB F w w') {b o:Nat} {ds:List Value} (hF:F b) (h:w.rangeAt b o ds):w'.rangeAt b o ds:=fun j v hv=>(Dj (w:=w) (hs.blk b hF)).trans (h j v hv)
theorem Lf.stay {F:Nat->Prop} {w w':World} (hs:jB F w w') {cs:List Value}:{l:Lf}->{x:l.den}->Lf.rep w cs l x->Lf.rep w' cs l x
 | .rat,_,h=>RQ.stay h hs
 | .big,_,h=>dS.stay h hs
 | .gQ,_,⟨b,p,c,b',p',c',h1,h2,h3,h4⟩=>⟨b,p,c,b',p',c',h1,h2.stay hs,h3.stay hs,h4.stay hs⟩
 | .FV,_,⟨b,p,c,h1,h2,h3⟩=>⟨b,p,c,h1,h2.stay hs,h3.stay hs⟩
 | .str,_,h=>h
 | .grp,_,⟨b,s,h1,h2⟩=>⟨b,s,h1,h2.stay hs⟩
 | .gsl,_,⟨s,h1,h2⟩=>⟨s,h1,h2.stay hs⟩
 | .OE,_,⟨b,o,h1,h2⟩=>⟨b,o,h1,hs.dig _ _ _ h2⟩
 | .esl,_,h=>h
theorem bT {F F':Nat->Prop} {w w':World} (hF:∀ b,F b->F' b) (hs:jB F w w'):(t:Ty)->(cs:List Value)->(x:t.den)->rep F w t cs x->rep F' w' t cs x
 | .bool,_,_,h=>h
 | .int _,_,_,h=>h
 | .lf _,_,_,h=>Lf.stay hs h
 | .list t,_,x,⟨p,c,h1,h2,h3,h4⟩=>⟨p,c,h1,h2,h3,h4.imp id fun⟨b,o,ds,k1,k2,k3,k4⟩=>⟨b,o,ds,k1,hF b k2,lG hs k2 k3,aW (fun c y=>bT hF hs t c y) _ _ k4⟩⟩
 | .arr n t,_,_,⟨h1,h2⟩=>⟨h1,aW (fun c y=>bT hF hs t c y) _ _ h2⟩
 | .pair a b,_,_,⟨c1,c2,h1,h2,h3⟩=>⟨c1,c2,h1,bT hF hs a _ _ h2,bT hF hs b _ _ h3⟩
 | .unit,_,_,h=>h
 | .ref t,_,_,⟨b,o,ds,h1,h2,h3,h4⟩=>⟨b,o,ds,h1,hF b h2,lG hs h2 h3,bT hF hs t _ _ h4⟩
 | .clo _ t,_,_,⟨ds,h1,h2⟩=>⟨ds,h1,bT hF hs t _ _ h2⟩
 | .nls t,_,_,h=>h.imp id fun⟨ys,b,o,c,ds,h1,h2,h3,h4,h5⟩=>⟨ys,b,o,c,ds,h1,h2,h3,h4,h5.imp id fun⟨k2,k3,k4⟩=>⟨hF b k2,lG hs k2 k3,aW (fun c y=>bT hF hs t c y) _ _ k4⟩⟩
theorem Lf.len {w:World} {cs:List Value}:{l:Lf}->{x:l.den}->Lf.rep w cs l x->cs.length=l.n
 | .rat,_,h=>by
  obtain⟨_,_,_,_,h1,_⟩:=h
  rw[Value.agg.injEq] at h1
  have:=ql Array.size h1
  simpa [Lf.n] using this
 | .big,_,h=>by
  obtain⟨_,h1,_⟩:=h
  rw[Value.agg.injEq] at h1
  have:=ql Array.size h1
  simpa [Lf.n] using this
 | .gQ,_,⟨_,_,_,_,_,_,h1,_⟩=>by rw[h1];rfl
 | .FV,_,⟨_,_,_,h1,_⟩=>by rw[h1];rfl
 | .str,_,h=>by rw[show cs=_ from h];rfl
 | .grp,_,⟨_,_,h1,_⟩=>by rw[h1];rfl
 | .gsl,_,⟨_,h1,_⟩=>by rw[h1];rfl
 | .OE,_,⟨_,_,h1,_⟩=>by rw[h1];rfl
 | .esl,_,⟨_,h1⟩=>by rw[h1];rfl
theorem nO {α:Type} {R:List Value->α->Prop} {n:Nat} (h:∀ c y,R c y->c.length=n):∀ (xs:List α) (cs:List Value),chunks R cs xs->cs.length=xs.length*n
 | [],cs,hc=>by rw[show cs=[] from hc];simp
 | _::xs,_,⟨c1,c2,h1,h2,h3⟩=>by rw[h1,dn,h _ _ h2,nO h xs c2 h3,List.length_cons,zf,En]
theorem dK {F:Nat->Prop} {w:World}:(t:Ty)->(cs:List Value)->(x:t.den)->rep F w t cs x->cs.length=t.n
 | .bool,_,_,h=>by rw[show _=_ from h];rfl
 | .int _,_,_,h=>by rw[show _=_ from h];rfl
 | .lf _,_,_,h=>Lf.len h
 | .list t,_,x,⟨p,c,h1,_⟩=>by rw[h1];rfl
 | .arr n t,_,_,⟨h1,h2⟩=>by rw[nO (fun c y=>dK t c y) _ _ h2,h1];rfl
 | .pair a b,_,_,⟨c1,c2,h1,h2,h3⟩=>by rw[h1,dn,dK a _ _ h2,dK b _ _ h3];rfl
 | .unit,_,_,h=>by rw[show _=_ from h];rfl
 | .ref t,_,_,⟨b,o,ds,h1,_⟩=>by rw[h1];rfl
 | .clo _ t,_,_,⟨ds,h1,_⟩=>by rw[h1];rfl
 | .nls t,_,_,h=>by rcases h with⟨_,rfl⟩|⟨ys,b,o,c,ds,_,rfl,_⟩<;>rfl
def bV (v:Value):Bool:=v.oneCell'&&fC v
def Ty.still:Ty->Bool
 | .int .u32=>false
 | .arr _ t=>t.still
 | .pair a b=>a.still&&b.still
 | _=>true
theorem Lf.ok {w:World} {cs:List Value}:{l:Lf}->{x:l.den}->Lf.rep w cs l x->∀ v ∈ cs,bV v=true
 | .rat,_,h=>by
  obtain⟨b,p,n,c,b',p',n',c',h1⟩:=RQ.form h
  rw[Value.agg.injEq] at h1
  rw[show cs=[.bool b,.slice p n c,.bool b',.slice p' n' c'] by simpa using ql Array.toList h1]
  simp[bV,fC,Value.oneCell']
 | .big,_,h=>by
  obtain⟨b,p,n,c,h1⟩:=dS.form h
  rw[Value.agg.injEq] at h1
  rw[show cs=[.bool b,.slice p n c] by simpa using ql Array.toList h1]
  simp[bV,fC,Value.oneCell']
 | .gQ,_,⟨_,_,_,_,_,_,h1,_⟩=>by rw[h1];simp[bV,fC,Value.oneCell']
 | .FV,_,⟨_,_,_,h1,_⟩=>by rw[h1];simp[bV,fC,Value.oneCell']
 | .str,_,h=>by rw[show cs=_ from h];simp[bV,fC,Value.oneCell']
 | .grp,_,⟨_,s,h1,h2⟩=>by
  obtain⟨p,c,rfl,_⟩:=h2.form
  rw[h1];simp[bV,fC,Value.oneCell']
 | .gsl,_,⟨s,h1,h2⟩=>by
  obtain⟨p,c,rfl,_⟩:=h2.form
  rw[h1];simp[bV,fC,Value.oneCell']
 | .OE,_,⟨_,_,h1,_⟩=>by rw[h1];simp[bV,fC,Value.oneCell']
 | .esl,_,⟨_,h1⟩=>by rw[h1];simp[bV,fC,Value.oneCell']
theorem CQ {α:Type} {R:List Value->α->Prop} {p:Value->Bool} (h:∀ c y,R c y->∀ v ∈ c,p v=true):∀ (xs:List α) (cs:List Value),chunks R cs xs->∀ v ∈ cs,p v=true
 | [],cs,hc=>by rw[show cs=[] from hc];simp
 | _::xs,_,⟨c1,c2,h1,h2,h3⟩=>by
  rw[h1]
  intro v hv
  rcases tu.1 hv with hv|hv
  ·grind
  ·exact CQ h xs c2 h3 v hv
theorem yG {F:Nat->Prop} {w:World}:(t:Ty)->t.still=true->(cs:List Value)->(x:t.den)->rep F w t cs x->∀ v ∈ cs,bV v=true
 | .bool,_,_,_,h=>by rw[show _=_ from h];simp[bV,fC,Value.oneCell']
 | .int k,hk,_,_,h=>by
  rw[show _=_ from h]
  cases k<;>simp_all [bV,fC,Value.oneCell',Ty.still]
 | .lf _,_,_,_,h=>Lf.ok h
 | .list t,_,_,x,⟨p,c,h1,_⟩=>by rw[h1];simp[bV,fC,Value.oneCell']
 | .arr n t,hk,_,_,⟨h1,h2⟩=>CQ (fun c y=>yG t hk c y) _ _ h2
 | .pair a b,hk,_,_,⟨c1,c2,h1,h2,h3⟩=>by
  simp only[Ty.still,ay] at hk
  rw[h1]
  intro v hv
  rcases tu.1 hv with hv|hv
  ·exact yG a hk.1 _ _ h2 v hv
  ·exact yG b hk.2 _ _ h3 v hv
 | .unit,_,_,_,h=>by rw[show _=_ from h];simp
 | .ref t,_,_,_,⟨b,o,ds,h1,_⟩=>by rw[h1];simp[bV,fC,Value.oneCell']
 | .clo _ t,_,_,_,⟨ds,h1,_⟩=>by rw[h1];simp[bV,fC,Value.oneCell']
 | .nls t,_,_,_,h=>by rcases h with⟨_,rfl⟩|⟨ys,b,o,c,ds,_,rfl,_⟩<;>simp[bV,fC,Value.oneCell']
def Ty.zero:(t:Ty)->t.den
 | .bool=>false
 | .int _=>(0:Int)
 | .lf l=>l.zero
 | .list _=>[]
 | .arr n t=>List.replicate n t.zero
 | .pair a b=>(a.zero,b.zero)
 | .unit=>()
 | .ref t=>t.zero
 | .clo _ t=>t.zero
 | .nls _=>none
theorem WH {α:Type} {R:List Value->α->Prop} {n:Nat} (h:∀ c y,R c y->c.length=n):∀ (xs:List α) (cs:List Value),chunks R cs xs->∀ (i:Nat) (d:α),i<xs.length->∃ c,(cs.drop (i*n)).take n=c/\R c (xs.getD i d)
 | x::xs,_,⟨c1,c2,h1,h2,h3⟩,0,d,_=>⟨c1,by rw[h1,Nat.zero_mul,List.drop_zero,<-h _ _ h2,Cb],h2⟩
 | x::xs,_,⟨c1,c2,h1,h2,h3⟩,i+1,d,hi=>by
  obtain⟨c,k1,k2⟩:=WH h xs c2 h3 i d (by simpa using hi)
  refine⟨c,?_,k2⟩
  rw[h1,zf,En,<-Dx,<-h _ _ h2,Ah,h _ _ h2]
  exact k1
theorem yF {w:World} {b o:Nat} {ds:List Value} (h:w.rangeAt b o ds) (k n:Nat):w.rangeAt b (o+k) ((ds.drop k).take n):=fun j v hv=>by
 have h1:ds[k+j]?=some v:=by
  rw[List.getElem?_take] at hv
  split at hv
  ·grind
  ·cases hv
 have:=h (k+j) v h1
 grind
end Go.Proofs.YtbkocjmmbkifjaaGreat
