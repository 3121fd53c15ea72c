/-
  Lemmas for the theorem vofmatrices_holds, part 6 of 32.
-/
import Derived.BigQuiet
import Derived.Test.YtidfgdchcpmnfaaGreatOm02
import Derived.Test.YtidfgdchcpmnfaaGreatOm05
namespace Go.Proofs.YtidfgdchcpmnfaaGreat
open Go Go.RowKit
set_option linter.unusedSimpArgs false
set_option linter.unusedVariables false
theorem bx1 (w:World) {n:Nat} (h:w.heap.size=n) (c0:List Value) (t0:TypeId):Below w.heap.size w (w.alloc (.cells c0.toArray t0))/\Bx (w.alloc (.cells c0.toArray t0)) (n) c0:=by
 subst h
 exact⟨(Below.refl _ _).alloc (Nat.le_refl _) _,by have:=(Bx.new w c0 t0);simpa using this⟩
theorem bx2 (w:World) {n:Nat} (h:w.heap.size=n) (c0:List Value) (t0:TypeId) (c1:List Value) (t1:TypeId):Below w.heap.size w ((w.alloc (.cells c0.toArray t0)).alloc (.cells c1.toArray t1))/\Bx ((w.alloc (.cells c0.toArray t0)).alloc (.cells c1.toArray t1)) (n) c0/\Bx ((w.alloc (.cells c0.toArray t0)).alloc (.cells c1.toArray t1)) (n+1) c1:=by
 subst h
 exact⟨Below.al ((Below.refl _ _).alloc (Nat.le_refl _) _) _,by have:=((Bx.new w c0 t0).alloc (.cells c1.toArray t1));simpa using this,by have:=(Bx.new (w.alloc (.cells c0.toArray t0)) c1 t1);simpa using this⟩
theorem bx3 (w:World) {n:Nat} (h:w.heap.size=n) (c0:List Value) (t0:TypeId) (c1:List Value) (t1:TypeId) (c2:List Value) (t2:TypeId):Below w.heap.size w (((w.alloc (.cells c0.toArray t0)).alloc (.cells c1.toArray t1)).alloc (.cells c2.toArray t2))/\Bx (((w.alloc (.cells c0.toArray t0)).alloc (.cells c1.toArray t1)).alloc (.cells c2.toArray t2)) (n) c0/\Bx (((w.alloc (.cells c0.toArray t0)).alloc (.cells c1.toArray t1)).alloc (.cells c2.toArray t2)) (n+1) c1/\Bx (((w.alloc (.cells c0.toArray t0)).alloc (.cells c1.toArray t1)).alloc (.cells c2.toArray t2)) (n+1+1) c2:=by
 subst h
 exact⟨Below.al (Below.al ((Below.refl _ _).alloc (Nat.le_refl _) _) _) _,by have:=(((Bx.new w c0 t0).alloc (.cells c1.toArray t1)).alloc (.cells c2.toArray t2));simpa using this,by have:=((Bx.new (w.alloc (.cells c0.toArray t0)) c1 t1).alloc (.cells c2.toArray t2));simpa using this,by have:=(Bx.new ((w.alloc (.cells c0.toArray t0)).alloc (.cells c1.toArray t1)) c2 t2);simpa using this⟩
theorem bx4 (w:World) {n:Nat} (h:w.heap.size=n) (c0:List Value) (t0:TypeId) (c1:List Value) (t1:TypeId) (c2:List Value) (t2:TypeId) (c3:List Value) (t3:TypeId):Below w.heap.size w ((((w.alloc (.cells c0.toArray t0)).alloc (.cells c1.toArray t1)).alloc (.cells c2.toArray t2)).alloc (.cells c3.toArray t3))/\Bx ((((w.alloc (.cells c0.toArray t0)).alloc (.cells c1.toArray t1)).alloc (.cells c2.toArray t2)).alloc (.cells c3.toArray t3)) (n) c0/\Bx ((((w.alloc (.cells c0.toArray t0)).alloc (.cells c1.toArray t1)).alloc (.cells c2.toArray t2)).alloc (.cells c3.toArray t3)) (n+1) c1/\Bx ((((w.alloc (.cells c0.toArray t0)).alloc (.cells c1.toArray t1)).alloc (.cells c2.toArray t2)).alloc (.cells c3.toArray t3)) (n+1+1) c2/\Bx ((((w.alloc (.cells c0.toArray t0)).alloc (.cells c1.toArray t1)).alloc (.cells c2.toArray t2)).alloc (.cells c3.toArray t3)) (n+1+1+1) c3:=by
 subst h
 exact⟨Below.al (Below.al (Below.al ((Below.refl _ _).alloc (Nat.le_refl _) _) _) _) _,by have:=((((Bx.new w c0 t0).alloc (.cells c1.toArray t1)).alloc (.cells c2.toArray t2)).alloc (.cells c3.toArray t3));simpa using this,by have:=(((Bx.new (w.alloc (.cells c0.toArray t0)) c1 t1).alloc (.cells c2.toArray t2)).alloc (.cells c3.toArray t3));simpa using this,by have:=((Bx.new ((w.alloc (.cells c0.toArray t0)).alloc (.cells c1.toArray t1)) c2 t2).alloc (.cells c3.toArray t3));simpa using this,by have:=(Bx.new (((w.alloc (.cells c0.toArray t0)).alloc (.cells c1.toArray t1)).alloc (.cells c2.toArray t2)) c3 t3);simpa using this⟩
theorem Bx.cs2 {w:World} {b:Nat} {u0 u1:Value} (h:Bx w b [u0,u1]):w.cell? ⟨b,0,none⟩=some u0/\w.cell? ⟨b,1,none⟩=some u1 :=
 ⟨(h.2 0 u0 rfl).1,(h.2 1 u1 rfl).1⟩
theorem Bx.cs4 {w:World} {b:Nat} {u0 u1 u2 u3:Value} (h:Bx w b [u0,u1,u2,u3]):w.cell? ⟨b,0,none⟩=some u0/\w.cell? ⟨b,1,none⟩=some u1/\w.cell? ⟨b,2,none⟩=some u2/\w.cell? ⟨b,3,none⟩=some u3 :=
 ⟨(h.2 0 u0 rfl).1,(h.2 1 u1 rfl).1,(h.2 2 u2 rfl).1,(h.2 3 u3 rfl).1⟩
theorem Bx.cf2 {w:World} {b:Nat} {u0 u1:Value} (h:Bx w b [u0,u1]):w.cell? ⟨b,0,none⟩=some u0/\w.frozen? ⟨b,0,none⟩=false/\w.cell? ⟨b,1,none⟩=some u1/\w.frozen? ⟨b,1,none⟩=false :=
 ⟨(h.2 0 u0 rfl).1,(h.2 0 u0 rfl).2,(h.2 1 u1 rfl).1,(h.2 1 u1 rfl).2⟩
theorem Bx.cf4 {w:World} {b:Nat} {u0 u1 u2 u3:Value} (h:Bx w b [u0,u1,u2,u3]):w.cell? ⟨b,0,none⟩=some u0/\w.frozen? ⟨b,0,none⟩=false/\w.cell? ⟨b,1,none⟩=some u1/\w.frozen? ⟨b,1,none⟩=false/\w.cell? ⟨b,2,none⟩=some u2/\w.frozen? ⟨b,2,none⟩=false/\w.cell? ⟨b,3,none⟩=some u3/\w.frozen? ⟨b,3,none⟩=false :=
 ⟨(h.2 0 u0 rfl).1,(h.2 0 u0 rfl).2,(h.2 1 u1 rfl).1,(h.2 1 u1 rfl).2,(h.2 2 u2 rfl).1,(h.2 2 u2 rfl).2,(h.2 3 u3 rfl).1,(h.2 3 u3 rfl).2⟩
def gB (S:World->Prop):Prop:=∀ A B:World,S A->Below A.heap.size A B->S B
def dD (b:Nat) (S:World->Prop):Prop:=∀ (A:World) (j:Nat) (x:Value),S A->S (A.setCell ⟨b,j,none⟩ x)
theorem gB.go {S:World->Prop} (h:gB S) {A B:World} (hS:S A) (hb:Below A.heap.size A B):S B:=h A B hS hb
theorem dD.go2 {S:World->Prop} {b:Nat} (h:dD b S) {A:World} {x0 x1:Value} (hS:S A):S ((A.setCell ⟨b,0,none⟩ x0).setCell ⟨b,1,none⟩ x1):=(h _ _ _ (h _ _ _ hS))
theorem dD.go4 {S:World->Prop} {b:Nat} (h:dD b S) {A:World} {x0 x1 x2 x3:Value} (hS:S A):S ((((A.setCell ⟨b,0,none⟩ x0).setCell ⟨b,1,none⟩ x1).setCell ⟨b,2,none⟩ x2).setCell ⟨b,3,none⟩ x3):=(h _ _ _ (h _ _ _ (h _ _ _ (h _ _ _ hS))))
abbrev aP (S T:World->Prop) (w:World):Prop:=S w/\T w
theorem aP.mk {S T:World->Prop} {w:World} (x:S w) (y:T w):aP S T w:=⟨x,y⟩
theorem aP.hk {S T:World->Prop} (h:gB S) (h':gB T):gB (aP S T):=fun A B x hb=>⟨h A B x.1 hb,h' A B x.2 hb⟩
theorem aP.hc {S T:World->Prop} {b:Nat} (h:dD b S) (h':dD b T):dD b (aP S T):=fun A j v x=>⟨h A j v x.1,h' A j v x.2⟩
abbrev BT (w:World):Prop:=True
theorem BT.of (w:World):BT w:=trivial
theorem BT.hk:gB BT:=fun _ _ _ _=>trivial
theorem BT.hc {b:Nat}:dD b BT:=fun _ _ _ _=>trivial
abbrev BN (b:Nat) (w:World):Prop:=b<w.heap.size
theorem BN.of {w:World} {b:Nat} {cs:List Value} (h:Bx w b cs):BN b w:=h.1
theorem BN.hk {b:Nat}:gB (BN b):=fun A B x hb=>Nat.lt_of_lt_of_le x hb.size
theorem BN.hc {b b':Nat}:dD b' (BN b):=fun A j v x=>by simpa [World.setCell] using x
abbrev BC (b o:Nat) (u:Value) (w:World):Prop:=w.cell? ⟨b,o,none⟩=some u/\b<w.heap.size
theorem BC.of {w w':World} {b o:Nat} {u:Value} (hb:Below w.heap.size w w') (hl:b<w.heap.size) (hc:w.cell? ⟨b,o,none⟩=some u):BC b o u w':=⟨((eX hb).1 _ _ hl).trans hc,Nat.lt_of_lt_of_le hl hb.size⟩
theorem BC.at {w w':World} {b o:Nat} {u:Value} (h:BC b o u w) (hb:Below w.heap.size w w'):w'.cell? ⟨b,o,none⟩=some u:=((eX hb).1 _ _ h.2).trans h.1
theorem BC.hk {b o:Nat} {u:Value}:gB (BC b o u):=fun A B x hb=>⟨((eX hb).1 _ _ x.2).trans x.1,Nat.lt_of_lt_of_le x.2 hb.size⟩
theorem BC.hc {b b' o:Nat} {u:Value} (h:b≠b'):dD b' (BC b o u):=fun A j v x=>⟨(World.cell?_setCell_far _ _ _ _ (fun e=>h e.symm)).trans x.1,by simpa [World.setCell] using x.2⟩
abbrev BS1 (b:Nat) (u0:Value) (w:World):Prop:=w.cell? ⟨b,0,none⟩=some u0/\b<w.heap.size
theorem BS1.hk {b:Nat} {u0:Value}:gB (BS1 b u0):=fun A B ⟨h0,hl⟩ hb=>⟨((eX hb).1 _ _ hl).trans h0,Nat.lt_of_lt_of_le hl hb.size⟩
theorem BS1.hc {b b':Nat} {u0:Value} (h:b≠b'):dD b' (BS1 b u0):=fun A j v ⟨h0,hl⟩=>⟨(World.cell?_setCell_far _ _ _ _ (fun e=>h e.symm)).trans h0,by simpa [World.setCell] using hl⟩
abbrev BS2 (b:Nat) (u0 u1:Value) (w:World):Prop:=w.cell? ⟨b,0,none⟩=some u0/\w.cell? ⟨b,1,none⟩=some u1/\b<w.heap.size
theorem Bx.bs2 {w:World} {b:Nat} {u0 u1:Value} (h:Bx w b [u0,u1]):BS2 b u0 u1 w:=⟨(h.2 0 u0 rfl).1,(h.2 1 u1 rfl).1,h.1⟩
theorem BS2.hk {b:Nat} {u0 u1:Value}:gB (BS2 b u0 u1):=fun A B ⟨h0,h1,hl⟩ hb=>⟨((eX hb).1 _ _ hl).trans h0,((eX hb).1 _ _ hl).trans h1,Nat.lt_of_lt_of_le hl hb.size⟩
theorem BS2.hc {b b':Nat} {u0 u1:Value} (h:b≠b'):dD b' (BS2 b u0 u1):=fun A j v ⟨h0,h1,hl⟩=>⟨(World.cell?_setCell_far _ _ _ _ (fun e=>h e.symm)).trans h0,(World.cell?_setCell_far _ _ _ _ (fun e=>h e.symm)).trans h1,by simpa [World.setCell] using hl⟩
abbrev BS4 (b:Nat) (u0 u1 u2 u3:Value) (w:World):Prop:=w.cell? ⟨b,0,none⟩=some u0/\w.cell? ⟨b,1,none⟩=some u1/\w.cell? ⟨b,2,none⟩=some u2/\w.cell? ⟨b,3,none⟩=some u3/\b<w.heap.size
theorem Bx.bs4 {w:World} {b:Nat} {u0 u1 u2 u3:Value} (h:Bx w b [u0,u1,u2,u3]):BS4 b u0 u1 u2 u3 w:=⟨(h.2 0 u0 rfl).1,(h.2 1 u1 rfl).1,(h.2 2 u2 rfl).1,(h.2 3 u3 rfl).1,h.1⟩
theorem BS4.hk {b:Nat} {u0 u1 u2 u3:Value}:gB (BS4 b u0 u1 u2 u3):=fun A B ⟨h0,h1,h2,h3,hl⟩ hb=>⟨((eX hb).1 _ _ hl).trans h0,((eX hb).1 _ _ hl).trans h1,((eX hb).1 _ _ hl).trans h2,((eX hb).1 _ _ hl).trans h3,Nat.lt_of_lt_of_le hl hb.size⟩
theorem BS4.hc {b b':Nat} {u0 u1 u2 u3:Value} (h:b≠b'):dD b' (BS4 b u0 u1 u2 u3):=fun A j v ⟨h0,h1,h2,h3,hl⟩=>⟨(World.cell?_setCell_far _ _ _ _ (fun e=>h e.symm)).trans h0,(World.cell?_setCell_far _ _ _ _ (fun e=>h e.symm)).trans h1,(World.cell?_setCell_far _ _ _ _ (fun e=>h e.symm)).trans h2,(World.cell?_setCell_far _ _ _ _ (fun e=>h e.symm)).trans h3,by simpa [World.setCell] using hl⟩
abbrev BS8 (b:Nat) (u0 u1 u2 u3 u4 u5 u6 u7:Value) (w:World):Prop:=w.cell? ⟨b,0,none⟩=some u0/\w.cell? ⟨b,1,none⟩=some u1/\w.cell? ⟨b,2,none⟩=some u2/\w.cell? ⟨b,3,none⟩=some u3/\w.cell? ⟨b,4,none⟩=some u4/\w.cell? ⟨b,5,none⟩=some u5/\w.cell? ⟨b,6,none⟩=some u6/\w.cell? ⟨b,7,none⟩=some u7/\b<w.heap.size
theorem BS8.hk {b:Nat} {u0 u1 u2 u3 u4 u5 u6 u7:Value}:gB (BS8 b u0 u1 u2 u3 u4 u5 u6 u7):=fun A B ⟨h0,h1,h2,h3,h4,h5,h6,h7,hl⟩ hb=>⟨((eX hb).1 _ _ hl).trans h0,((eX hb).1 _ _ hl).trans h1,((eX hb).1 _ _ hl).trans h2,((eX hb).1 _ _ hl).trans h3,((eX hb).1 _ _ hl).trans h4,((eX hb).1 _ _ hl).trans h5,((eX hb).1 _ _ hl).trans h6,((eX hb).1 _ _ hl).trans h7,Nat.lt_of_lt_of_le hl hb.size⟩
theorem BS8.hc {b b':Nat} {u0 u1 u2 u3 u4 u5 u6 u7:Value} (h:b≠b'):dD b' (BS8 b u0 u1 u2 u3 u4 u5 u6 u7):=fun A j v ⟨h0,h1,h2,h3,h4,h5,h6,h7,hl⟩=>⟨(World.cell?_setCell_far _ _ _ _ (fun e=>h e.symm)).trans h0,(World.cell?_setCell_far _ _ _ _ (fun e=>h e.symm)).trans h1,(World.cell?_setCell_far _ _ _ _ (fun e=>h e.symm)).trans h2,(World.cell?_setCell_far _ _ _ _ (fun e=>h e.symm)).trans h3,(World.cell?_setCell_far _ _ _ _ (fun e=>h e.symm)).trans h4,(World.cell?_setCell_far _ _ _ _ (fun e=>h e.symm)).trans h5,(World.cell?_setCell_far _ _ _ _ (fun e=>h e.symm)).trans h6,(World.cell?_setCell_far _ _ _ _ (fun e=>h e.symm)).trans h7,by simpa [World.setCell] using hl⟩
end Go.Proofs.YtidfgdchcpmnfaaGreat
namespace Go.Proofs.YtidfgdchcpmnfaaGreat
open Go.RowKit
set_option maxRecDepth 100000
set_option maxHeartbeats 2000000
set_option linter.unusedSimpArgs false
set_option linter.unusedVariables false
theorem Canon.pos {b:List Nat} (hb:Canon b) (h:b≠[]):0<val b:=by
 rcases Nat.eq_zero_or_pos (val b) with h0|h0
 ·have:=dX hb
  rw[h0,dQ] at this
  exact absurd this.symm h
 ·exact h0
def VW (l m:List Nat) (w:World) (e:Ending) (w':World):Prop:=∃ v1 v2,e=.returned (.tuple #[v1,v2])/\Rd w' v1 l/\Rd w' v2 m/\Below w.heap.size w w'
theorem b0t (s t:Value) (a b:List Nat) (w:World) (hs:Rd w s a) (ht:Rd w t b) (ha:Canon a) (hb:Canon b) (la:a.length<=1000000000) (hb0:b≠[]) (hlt:val a<val b) :
  Calls Tryz.prog 151 #[s,t] w (VW (dig (val a / val b)) (dig (val a%val b)) w):=by
 have hbp:=hb.pos hb0
 obtain⟨p,c,rfl,hc1,hc2⟩:=hs.form
 obtain⟨q,d,rfl,hd1,hd2⟩:=ht.form
 have HX:Hid (dig (val a / val b)=[]/\dig (val a%val b)=a):=by
  refine⟨by rw[Nat.div_eq_of_lt hlt,dQ],by rw[Nat.mod_eq_of_lt hlt,dX ha]⟩
 have hcv:dB (val a) (val b)=-1:=by unfold dB;rw[if_pos (by omega)]
 have HCV:=Lib.hid hcv
 clear hcv hlt hbp
 go_enter Tryz.func151,Tryz.ntmps151
 go_wp2_with fail
 refine(kS _ _ a b _ hs ht ha hb).mono ?_
 rw[HCV.out]
 rintro e w1 ⟨rfl,hb1⟩
 go_wp2_with fail
 go_ret2
 exact⟨_,_,rfl,by rw[HX.out.1];exact Rd.nil _,by rw[HX.out.2];exact hs.below hb1,hb1⟩
theorem a2C (s t:Value) (a b:List Nat) (w:World) (hs:Rd w s a) (ht:Rd w t b) (ha:Canon a) (hb:Canon b) (la:a.length<=1000000000) (hb0:b≠[]) (hle:val b<=val a) (ha2:a.length<=2) :
  Calls Tryz.prog 151 #[s,t] w (VW (dig (val a / val b)) (dig (val a%val b)) w):=by
 have hbp:=hb.pos hb0
 obtain⟨p,c,rfl,hc1,hc2⟩:=hs.form
 obtain⟨q,d,rfl,hd1,hd2⟩:=ht.form
 have hlen:b.length<=a.length:=by
  have:=aQ hle
  rwa [dX ha,dX hb] at this
 have hb1':1<=b.length:=List.length_pos_iff.2 hb0
 have hc:0<=dB (val a) (val b):=by unfold dB;rw[if_neg (by omega)];split<;>omega
 obtain⟨cv,hcv⟩:∃ cv,dB (val a) (val b)=cv:=⟨_,rfl⟩
 rw[hcv] at hc
 have hdc:decide (cv<0)=false:=by simpa using hc
 have HCV:=Lib.hid hcv
 have HLE:=Lib.hid hle
 have HBP:=Lib.hid hbp
 clear hcv hle hbp hc
 have hb2:b.length<=2:=by omega
 have hA:val a<=999999999999999999:=by
  have h1:=nU ha.1
  have h2:BB ^ a.length<=BB ^ 2:=Nat.pow_le_pow_right iP ha2
  rw[bG] at h1 h2
  omega
 have hbv:0<val b:=HBP.out
 have b6o:val b<=val a:=HLE.out
 obtain⟨A,hA'⟩:∃ A,val a=A:=⟨_,rfl⟩
 obtain⟨B,hB'⟩:∃ B,val b=B:=⟨_,rfl⟩
 rw[hA'] at hA b6o ⊢
 rw[hB'] at hbv b6o ⊢
 have hq1:A / B<=A:=Nat.div_le_self _ _
 have hr1:A%B<B:=Nat.mod_lt _ hbv
 obtain⟨Q,hQ⟩:∃ Q,A / B=Q:=⟨_,rfl⟩
 obtain⟨R,hR⟩:∃ R,A%B=R:=⟨_,rfl⟩
 rw[hQ] at hq1 ⊢
 rw[hR] at hr1 ⊢
 have i1:(A:Int) / B=Q:=by rw[<-hQ];simp
 have i2:(A:Int)%B=R:=by rw[<-hR];simp
 have i3:(A:Int).tmod B=R:=by rw[Int.tmod_eq_emod_of_nonneg (by omega)];exact i2
 have w1:IntKind.u64.wrap (Q:Int)=Q:=wrap_u64 (by omega)
 have w2:IntKind.u64.wrap (R:Int)=R:=wrap_u64 (by omega)
 have hdz:((B:Int)==0)=false:=by simp;omega
 have hdn:¬ B=0:=by omega
 have a7N:=fun w=>QF (n:=A) (d:=B) (v:=Q) (by omega) hA i1 w1 w
 have a7O:=fun w=>FH (n:=A) (d:=B) (v:=R) (by omega) hA i2 w2 w
 have HAB:=Lib.hid (And.intro hA' hB')
 clear hQ hR hA' hB'
 go_enter Tryz.func151,Tryz.ntmps151
 go_wp2_with fail
 refine(kS _ _ a b _ hs ht ha hb).mono ?_
 rw[HCV.out]
 rintro e w1 ⟨rfl,hb1⟩
 go_wp2_with fail
 refine(qH _ a _ (hs.below hb1) ha.1 ha2).mono ?_
 rw[HAB.out.1]
 rintro e w2 ⟨rfl,hb2'⟩
 go_wp2_with fail
 refine(qH _ b _ ((ht.below hb1).below hb2') hb.1 hb2).mono ?_
 rw[HAB.out.2]
 rintro e w3 ⟨rfl,hb3⟩
 have hB3:=(hb1.trans (hb2'.mono hb1.size)).trans (hb3.mono (Nat.le_trans hb1.size hb2'.size))
 have tk1:True:=trivial
 have hz3:=hB3.size
 go_wp2_with fail
 have S0:(fun _:World=>True) w3.drew:=trivial
 go_region_held3 (fun _:World=>True) (trivial)
  (first
   | (have:=tk1;clear tk1;go_at_call 115;(with_reducible refine(rO Q _ (by omega)).mono ?_);rintro e w4 ⟨v4,rfl,ho4,hb4⟩)
   | (go_at_call 115;(with_reducible refine(rO R _ (by omega)).mono ?_);rintro e w5 ⟨v5,rfl,ho5,hb5⟩))
 go_wp2_with fail
 go_ret2
 exact⟨_,_,rfl,(Rd.bZ ho4).below hb5,Rd.bZ ho5,(hB3.drew.trans (hb4.mono hz3)).trans (hb5.mono (Nat.le_trans hz3 hb4.size))⟩
theorem a8x (s t:Value) (a b:List Nat) (w:World) (hs:Rd w s a) (ht:Rd w t b) (ha:Canon a) (hb:Canon b) (la:a.length<=1000000000) (hb0:b≠[]) (hle:val b<=val a) (ha3:2<a.length) (TU:b.length=1) :
  Calls Tryz.prog 151 #[s,t] w (VW (dig (val a / val b)) (dig (val a%val b)) w):=by
 have hbp:=hb.pos hb0
 obtain⟨p,c,rfl,hc1,hc2⟩:=hs.form
 obtain⟨q,d,rfl,hd1,hd2⟩:=ht.form
 have hlen:b.length<=a.length:=by
  have:=aQ hle
  rwa [dX ha,dX hb] at this
 have hb1':1<=b.length:=List.length_pos_iff.2 hb0
 have hc:0<=dB (val a) (val b):=by unfold dB;rw[if_neg (by omega)];split<;>omega
 obtain⟨cv,hcv⟩:∃ cv,dB (val a) (val b)=cv:=⟨_,rfl⟩
 rw[hcv] at hc
 have hdc:decide (cv<0)=false:=by simpa using hc
 have HCV:=Lib.hid hcv
 have HLE:=Lib.hid hle
 have HBP:=Lib.hid hbp
 clear hcv hle hbp hc
 obtain⟨d0,rfl⟩:∃ d0,b=[d0]:=by
  cases b with
  | nil=>simp at TU
  | cons x t=>cases t with
   | nil=>exact⟨x,rfl⟩
   | cons=>simp at TU
 have ht':Rd w (.slice q 1 d) [d0]:=ht
 show Calls Tryz.prog 151 #[.slice p a.length c,.slice q 1 d] w _
 obtain⟨gb,ob,rfl,hgb,hcb⟩:=ht'.at (by simp)
 have hc0:w.cell? ⟨gb,ob,none⟩=some (.int .u32 (d0:Nat)):=by simpa [gr] using hcb 0 (by simp)
 have b1U:d0<=999999999:=by have:=hb.1 d0 (by simp);rw[bG] at this;omega
 have hvd:val [d0]=d0:=by simp[bY]
 have hd0:1<=d0:=by have:=HBP.out;rw[hvd] at this;exact this
 have hr0:val a%d0<d0:=Nat.mod_lt _ hd0
 have HVD:=Lib.hid hvd
 clear hvd hcb TU
 go_enter Tryz.func151,Tryz.ntmps151
 go_wp2_with fail
 refine(kS _ _ a [d0] _ hs ht' ha hb).mono ?_
 rw[HCV.out]
 rintro e w1 ⟨rfl,hb1⟩
 go_wp2_with fail
 refine(wX _ a _ (hs.below hb1) ha3).mono ?_
 rintro e w2 ⟨rfl,hb2'⟩
 go_wp2_with fail
 refine(qH _ [d0] _ ((ht'.below hb1).below hb2') hb.1 (by simp)).mono ?_
 rintro e w3 ⟨rfl,hb3⟩
 have hB3:=(hb1.trans (hb2'.mono hb1.size)).trans (hb3.mono (Nat.le_trans hb1.size hb2'.size))
 have hc3:w3.cell? ⟨gb,ob,none⟩=some (.int .u32 (d0:Nat)):=(hB3.cell (p:=⟨gb,ob,none⟩) hgb).trans hc0
 have hs3:=hs.below hB3
 have hz3:=hB3.size
 go_wp2_with fail
 refine(short_any _ a d0 _ hs3 ha.1 hd0 b1U (by omega)).mono ?_
 rintro e w4 ⟨v4,rfl,ho4,hb4⟩
 obtain⟨R,hR⟩:∃ R,val a%d0=R:=⟨_,rfl⟩
 rw[hR] at hr0 ⊢
 have HR:=Lib.hid hR
 clear hR
 go_wp2_with fail
 refine(rO R _ (by omega)).mono ?_
 rintro e w5 ⟨v5,rfl,ho5,hb5⟩
 go_wp2_with fail
 go_ret2
 exact⟨_,_,rfl,by rw[HVD.out];exact(Rd.bZ ho4).below hb5,by rw[HVD.out,HR.out];exact Rd.bZ ho5,(hB3.trans (hb4.mono hz3)).trans (hb5.mono (Nat.le_trans hz3 hb4.size))⟩
theorem a5M (s t:Value) (a b:List Nat) (w:World) (hs:Rd w s a) (ht:Rd w t b) (ha:Canon a) (hb:Canon b) (la:a.length<=1000000000) (hb0:b≠[]) (hle:val b<=val a) (ha3:2<a.length) (TU:b.length≠1) :
  Calls Tryz.prog 151 #[s,t] w (VW (dig (val a / val b)) (dig (val a%val b)) w):=by
 have hbp:=hb.pos hb0
 obtain⟨p,c,rfl,hc1,hc2⟩:=hs.form
 obtain⟨q,d,rfl,hd1,hd2⟩:=ht.form
 have hlen:b.length<=a.length:=by
  have:=aQ hle
  rwa [dX ha,dX hb] at this
 have hb1':1<=b.length:=List.length_pos_iff.2 hb0
 have hc:0<=dB (val a) (val b):=by unfold dB;rw[if_neg (by omega)];split<;>omega
 obtain⟨cv,hcv⟩:∃ cv,dB (val a) (val b)=cv:=⟨_,rfl⟩
 rw[hcv] at hc
 have hdc:decide (cv<0)=false:=by simpa using hc
 have HCV:=Lib.hid hcv
 have HLE:=Lib.hid hle
 have HBP:=Lib.hid hbp
 clear hcv hle hbp hc
 have hb2:2<=b.length:=by omega
 have hne:((b.length:Int)==1)=false:=by simp;omega
 have hz:=fun(w3:World) (hB3:Below w.heap.size w w3)=>a8j _ _ a b w3 (hs.below hB3) (ht.below hB3) ha hb la hb2 HLE.out
 have HZ:=Lib.hid hz
 have HN1:=Lib.hid TU
 clear hz TU
 by_cases hb3:b.length<=2
 all_goals
  go_enter Tryz.func151,Tryz.ntmps151
  go_wp2_with fail
  refine(kS _ _ a b _ hs ht ha hb).mono ?_
  rw[HCV.out]
  rintro e w1 ⟨rfl,hb1⟩
  go_wp2_with fail
  refine(wX _ a _ (hs.below hb1) ha3).mono ?_
  rintro e w2 ⟨rfl,hb2'⟩
  go_wp2_with fail
  first
   |refine(qH _ b _ ((ht.below hb1).below hb2') hb.1 hb3).mono ?_
   |refine(wX _ b _ ((ht.below hb1).below hb2') (by omega)).mono ?_
  rintro e w3 ⟨rfl,b7H⟩
  have hB3:=(hb1.trans (hb2'.mono hb1.size)).trans (b7H.mono (Nat.le_trans hb1.size hb2'.size))
  go_wp2_with fail
  refine(HZ.out _ hB3).mono ?_
  rintro e w4 ⟨v1,v2,rfl,hv1,hv2,hb4⟩
  go_wp2_with fail
  go_ret2
  exact⟨_,_,rfl,hv1,hv2,hB3.trans (hb4.mono hB3.size)⟩
theorem sH (s t:Value) (a b:List Nat) (w:World) (hs:Rd w s a) (ht:Rd w t b) (ha:Canon a) (hb:Canon b) (la:a.length<=1000000000) (hb0:b≠[]) :
  Calls Tryz.prog 151 #[s,t] w (VW (dig (val a / val b)) (dig (val a%val b)) w):=by
 by_cases hlt:val a<val b
 ·exact b0t s t a b w hs ht ha hb la hb0 hlt
 ·by_cases ha2:a.length<=2
  ·exact a2C s t a b w hs ht ha hb la hb0 (by omega) ha2
  ·by_cases h1:b.length=1
   ·exact a8x s t a b w hs ht ha hb la hb0 (by omega) (by omega) h1
   ·exact a5M s t a b w hs ht ha hb la hb0 (by omega) (by omega) h1
def MH (q r:Int) (w:World) (e:Ending) (w':World):Prop:=∃ v1 v2,e=.returned (.tuple #[v1,v2,.int .i64 0])/\bU w' v1 q/\bU w' v2 r/\Below w.heap.size w w'
theorem oN {y:Int} (h:y≠0):dig y.natAbs≠[]:=fun e=>h (by have:=jB.1 e;omega)
theorem dK {w:World} {v:Value} {x y:Int} (h:bU w v x) (e:x=y):bU w v y:=e ▸ h
theorem a5q (v u:Value) (x y:Int) (w:World) (hv:Raw w v x) (hu:Raw w u y) (hl:isz x<=1000000000) (hl2:isz y<=1000000000) (hy:y≠0) (hr:x.natAbs%y.natAbs≠0) {b d:Bool} {p o:Option Addr} {n c m e:Nat} (ev:v=.agg #[.bool b,.slice p n c]) (eu:u=.agg #[.bool d,.slice o m e]) (hbd:(b != d)=false) :
  Calls Tryz.prog 110 #[v,u] w (MH (x.fdiv y) (x.fmod y) w):=by
 subst ev
 subst eu
 have hx1:=vM hv
 have hy1:=vM hu
 have hyp:0<y.natAbs:=by omega
 have HX:Hid (sg false (val (dig (val (dig x.natAbs) / val (dig y.natAbs))))=x.fdiv y/\sg d (val (dig (val (dig x.natAbs)%val (dig y.natAbs))))=x.fmod y):=by
  unfold Hid
  simp only[aK]
  obtain rfl:b=d:=by simpa using hbd
  have e1:=IB b x.natAbs _ hyp
  rw[hx1,hy1] at e1
  rw[e1.1,e1.2]
  simp[sg]
 have hlx:(dig x.natAbs).length<=1000000000:=hl
 have hly:(dig y.natAbs).length<=1000000000:=hl2
 have hyn:=oN hy
 have hy0:0<(dig y.natAbs).length:=List.length_pos_iff.2 hyn
 have a0n:Hid (val (dig (val (dig x.natAbs)%val (dig y.natAbs)))<=val (dig y.natAbs)):=by unfold Hid;simp only[aK];exact Nat.le_of_lt (Nat.mod_lt _ hyp)
 have hrl2:Hid ((dig (val (dig x.natAbs)%val (dig y.natAbs))).length<=(dig y.natAbs).length):=by unfold Hid;have:=aQ a0n.out;simpa only[aK] using this
 have hrl:Hid ((dig (val (dig x.natAbs)%val (dig y.natAbs))).length<=1000000000):=by have:=hrl2.out;unfold Hid;omega
 have hql:Hid ((dig (val (dig x.natAbs) / val (dig y.natAbs))).length<=1000000000):=by unfold Hid;simp only[aK];exact Nat.le_trans (aQ (Nat.div_le_self _ _)) hlx
 have hr0:0<(dig (val (dig x.natAbs)%val (dig y.natAbs))).length:=by simp only[aK];exact List.length_pos_iff.2 (fun e=>hr (jB.1 e))
 skip
 skip
 skip
 have hbd2:(!b==d)=false:=by rw[<-hbd];cases b<;>cases d<;>rfl
 clear hy hr hx1 hy1 hyp hl hl2
 have aY:Below w.heap.size w w:=Below.refl _ _
 go_enter Tryz.func110,Tryz.ntmps110
 go_wp2_with fail
 obtain⟨hA1,i0,j0,n0,o0⟩:=bx4 w rfl [.bool b,.slice p n c] 28 [.bool d,.slice o m e] 28 [.bool false,.slice none 0 0] 28 [.bool false,.slice none 0 0] 28
 have vT:=(aP.mk (i0.drew).bs2 (j0.drew).bs2)
 have tk1:True:=trivial
 have tk2:True:=trivial
 go_region_held3 (aP (BS2 w.heap.size (.bool b) (.slice p n c)) (BS2 (w.heap.size+1) (.bool d) (.slice o m e))) (first|with_reducible exact vT|with_reducible exact gB.go (aP.hk BS2.hk BS2.hk) (by assumption) (by assumption)|(simp;done))
  (first
   | (((have:=tk1);clear tk1;have p0:=(hv.below hA1).drew;go_at_call 119;(with_reducible refine(dP _ (x) _ p0).mono ?_);rintro e w1 ⟨s1,rfl,hs1,hb1⟩;obtain⟨p1,c1,rfl,a0k,a0m⟩:=hs1.form))
   | (((have:=tk2);clear tk2;have iU:=((hu.below hA1).drew.below hb1);have q0:=iU;go_at_call 119;(with_reducible refine(dP _ (y) _ q0).mono ?_);rintro e w2 ⟨s2,rfl,hs2,hb2⟩;obtain⟨p2,c2,rfl,a9P,a9T⟩:=hs2.form)))
 go_wp2_with fail
 have x0:=(hs1.below hb2)
 have r0:=x0
 have s0:=hs2
 (with_reducible refine(sH _ _ _ _ _ r0 s0 (bH _) (bH _) hlx hyn).mono ?_)
 rintro e w3 ⟨s3,t3,rfl,hs3,ht3,hb3⟩
 obtain⟨p3,c3,rfl,SB,SC⟩:=hs3.form
 obtain⟨o3,d3,rfl,hlo3,XE⟩:=ht3.form
 go_wp2_with fail
 have t0:=ht3
 (with_reducible refine(clone_any _ _ _ t0 (by have:=hrl.out;omega)).mono ?_)
 rintro e w4 ⟨s4,rfl,ho4,hb4⟩
 have hs4:=Rd.bZ ho4
 obtain⟨p4,c4,rfl,a7J,a7M⟩:=hs4.form
 have jU:=((((i0.drew.to hb1).to hb2).to hb3).to hb4)
 obtain⟨a1,b1⟩:=jU.cs2
 have jQ:=((((j0.drew.to hb1).to hb2).to hb3).to hb4)
 obtain⟨d1,f1⟩:=jQ.cs2
 go_wp2_with fail
 have vJ:=((((o0.drew.to hb1).to hb2).to hb3).to hb4)
 have GL:=(aP.mk (jU.drew).bs2 (aP.mk (jQ.drew).bs2 (BN.of (vJ.drew))))
 have k0:dD (w.heap.size+1+1) (aP (BS2 w.heap.size (.bool b) (.slice p n c)) (aP (BS2 (w.heap.size+1) (.bool d) (.slice o m e)) (BN (w.heap.size+1+1+1)))):=(aP.hc (BS2.hc (by omega)) (aP.hc (BS2.hc (by omega)) BN.hc))
 have l0:dD (w.heap.size+1+1+1) (aP (BS2 w.heap.size (.bool b) (.slice p n c)) (aP (BS2 (w.heap.size+1) (.bool d) (.slice o m e)) (BN (w.heap.size+1+1+1)))):=(aP.hc (BS2.hc (by omega)) (aP.hc (BS2.hc (by omega)) BN.hc))
 have tk3:True:=trivial
 have tk4:True:=trivial
 go_region_held3 (aP (BS2 w.heap.size (.bool b) (.slice p n c)) (aP (BS2 (w.heap.size+1) (.bool d) (.slice o m e)) (BN (w.heap.size+1+1+1)))) (first|with_reducible exact GL|with_reducible exact gB.go (aP.hk BS2.hk (aP.hk BS2.hk BN.hk)) (by assumption) (by assumption)|with_reducible exact dD.go2 k0 (by assumption)|with_reducible exact dD.go2 l0 (by assumption)|(simp;done))
  (first
   | (((have:=tk3);clear tk3;have y0:=(hs3.below hb4);have u0:=y0.drew;go_at_call 114;(with_reducible refine(iF _ _ _ _ u0 (bK _)).mono ?_);rintro e w5 ⟨v5,rfl,hi5,hb5⟩;obtain⟨g5,p5,n5,c5,rfl⟩:=hi5.form))
   | (((have:=tk4);clear tk4;have z0:=(hs4.drew.below hb5);have v0:=z0;go_at_call 114;(with_reducible refine(iF _ _ _ _ v0 (bK _)).mono ?_);rintro e w6 ⟨v6,rfl,hi6,hb6⟩;obtain⟨g6,p6,n6,c6,rfl⟩:=hi6.form;have qC:=((((((n0.drew.to hb1).to hb2).to hb3).to hb4).drew.to hb5).to hb6);obtain⟨a0,c0,b0,d0⟩:=qC.cf2;have sZ:=((vJ.drew.to hb5).to hb6);obtain⟨e0,g0,f0,h0⟩:=sZ.cf2)))
 have w0:=(hi5.below hb6)
 have m0:=(Below.tr (Below.tr (Below.tr (Below.tr (Below.tr (Below.tr (Below.tr aY hA1).drew hb1) hb2) hb3) hb4).drew hb5) hb6)
 go_wp2_with fail
 exact bodyPost_ret (v:=.tuple #[.agg #[.bool g5,.slice p5 n5 c5],.agg #[.bool g6,.slice p6 n6 c6],.int .i64 0]) (by simp[results,Tryz.results110,go_sem,a0,c0,b0,d0,e0,g0,f0,h0]) rfl ⟨_,_,rfl,dK ((w0.aF qC rfl rfl (.bool g5) (.slice p5 n5 c5)).aF (sZ.aJ (b:=w.heap.size+1+1) (by omega) (.bool g5) (.slice p5 n5 c5)) rfl rfl (.bool g6) (.slice p6 n6 c6)) HX.out.1,dK ((hi6.aF qC rfl rfl (.bool g5) (.slice p5 n5 c5)).aF (sZ.aJ (b:=w.heap.size+1+1) (by omega) (.bool g5) (.slice p5 n5 c5)) rfl rfl (.bool g6) (.slice p6 n6 c6)) HX.out.2,(Below.aF (Below.aF m0 (b:=w.heap.size+1+1) (by omega) (.bool g5) (.slice p5 n5 c5)) (b:=w.heap.size+1+1+1) (by omega) (.bool g6) (.slice p6 n6 c6))⟩
theorem a5o (v u:Value) (x y:Int) (w:World) (hv:Raw w v x) (hu:Raw w u y) (hl:isz x<=1000000000) (hl2:isz y<=1000000000) (hy:y≠0) (hr:x.natAbs%y.natAbs≠0) {b d:Bool} {p o:Option Addr} {n c m e:Nat} (ev:v=.agg #[.bool b,.slice p n c]) (eu:u=.agg #[.bool d,.slice o m e]) (hbd:(b != d)=true) :
  Calls Tryz.prog 110 #[v,u] w (MH (x.fdiv y) (x.fmod y) w):=by
 subst ev
 subst eu
 have hx1:=vM hv
 have hy1:=vM hu
 have hyp:0<y.natAbs:=by omega
 have HX:Hid (sg true (val (dig (val (dig (val (dig x.natAbs) / val (dig y.natAbs)))+val [1])))=x.fdiv y/\sg d (val (dig (val (dig y.natAbs)-val (dig (val (dig x.natAbs)%val (dig y.natAbs))))))=x.fmod y):=by
  unfold Hid
  simp only[aK]
  have e1:=TQ b d _ _ hyp hbd hr
  skip
  rw[hx1,hy1] at e1
  rw[e1.1,e1.2]
  simp[bY]
 have hlx:(dig x.natAbs).length<=1000000000:=hl
 have hly:(dig y.natAbs).length<=1000000000:=hl2
 have hyn:=oN hy
 have hy0:0<(dig y.natAbs).length:=List.length_pos_iff.2 hyn
 have a0n:Hid (val (dig (val (dig x.natAbs)%val (dig y.natAbs)))<=val (dig y.natAbs)):=by unfold Hid;simp only[aK];exact Nat.le_of_lt (Nat.mod_lt _ hyp)
 have hrl2:Hid ((dig (val (dig x.natAbs)%val (dig y.natAbs))).length<=(dig y.natAbs).length):=by unfold Hid;have:=aQ a0n.out;simpa only[aK] using this
 have hrl:Hid ((dig (val (dig x.natAbs)%val (dig y.natAbs))).length<=1000000000):=by have:=hrl2.out;unfold Hid;omega
 have hql:Hid ((dig (val (dig x.natAbs) / val (dig y.natAbs))).length<=1000000000):=by unfold Hid;simp only[aK];exact Nat.le_trans (aQ (Nat.div_le_self _ _)) hlx
 have hr0:0<(dig (val (dig x.natAbs)%val (dig y.natAbs))).length:=by simp only[aK];exact List.length_pos_iff.2 (fun e=>hr (jB.1 e))
 skip
 skip
 skip
 have hbd2:(!b==d)=true:=by rw[<-hbd];cases b<;>cases d<;>rfl
 clear hy hr hx1 hy1 hyp hl hl2
 have aY:Below w.heap.size w w:=Below.refl _ _
 go_enter Tryz.func110,Tryz.ntmps110
 go_wp2_with fail
 obtain⟨hA1,m0,n0,r0,s0⟩:=bx4 w rfl [.bool b,.slice p n c] 28 [.bool d,.slice o m e] 28 [.bool false,.slice none 0 0] 28 [.bool false,.slice none 0 0] 28
 have vT:=(aP.mk (m0.drew).bs2 (n0.drew).bs2)
 have tk1:True:=trivial
 have tk2:True:=trivial
 go_region_held3 (aP (BS2 w.heap.size (.bool b) (.slice p n c)) (BS2 (w.heap.size+1) (.bool d) (.slice o m e))) (first|with_reducible exact vT|with_reducible exact gB.go (aP.hk BS2.hk BS2.hk) (by assumption) (by assumption)|(simp;done))
  (first
   | (((have:=tk1);clear tk1;have t0:=(hv.below hA1).drew;go_at_call 119;(with_reducible refine(dP _ (x) _ t0).mono ?_);rintro e w1 ⟨s1,rfl,hs1,hb1⟩;obtain⟨p1,c1,rfl,a0k,a0m⟩:=hs1.form))
   | (((have:=tk2);clear tk2;have iU:=((hu.below hA1).drew.below hb1);have u0:=iU;go_at_call 119;(with_reducible refine(dP _ (y) _ u0).mono ?_);rintro e w2 ⟨s2,rfl,hs2,hb2⟩;obtain⟨p2,c2,rfl,a9P,a9T⟩:=hs2.form)))
 go_wp2_with fail
 have h1:=(hs1.below hb2)
 have v0:=h1
 have w0:=hs2
 (with_reducible refine(sH _ _ _ _ _ v0 w0 (bH _) (bH _) hlx hyn).mono ?_)
 rintro e w3 ⟨s3,t3,rfl,hs3,ht3,hb3⟩
 obtain⟨p3,c3,rfl,SB,SC⟩:=hs3.form
 obtain⟨o3,d3,rfl,hlo3,XE⟩:=ht3.form
 go_wp2_with fail
 have x0:=ht3
 (with_reducible refine(clone_any _ _ _ x0 (by have:=hrl.out;omega)).mono ?_)
 rintro e w4 ⟨s4,rfl,ho4,hb4⟩
 have hs4:=Rd.bZ ho4
 obtain⟨p4,c4,rfl,a7J,a7M⟩:=hs4.form
 have jU:=((((m0.drew.to hb1).to hb2).to hb3).to hb4)
 obtain⟨o1,q1⟩:=jU.cs2
 have jQ:=((((n0.drew.to hb1).to hb2).to hb3).to hb4)
 obtain⟨r1,t1⟩:=jQ.cs2
 have i0:=(jU).1
 have j0:=(jQ).1
 have lK:=((((r0.drew.to hb1).to hb2).to hb3).to hb4)
 have k0:=(lK).1
 have vJ:=((((s0.drew.to hb1).to hb2).to hb3).to hb4)
 have l0:=(vJ).1
 have n1:Rd (w4.alloc (.cells #[.int .u32 1] 118)) (.slice (some ⟨w4.heap.size,0,none⟩) 1 1) [1]:=(by simpa using XT w4 1)
 go_wp2_with fail
 have j1:=(hs3.below hb4)
 obtain⟨hA2,u1⟩:=bx1 w4 rfl [.int .u32 1] 118
 have y0:=(j1.below hA2)
 have z0:=n1
 (with_reducible refine(a0J _ _ _ _ _ y0 z0 (bK _) (Low.cons.2 ⟨a6z,Low.nil⟩) (by have:=hql.out;omega) (by simp)).mono ?_)
 rintro e w5 ⟨s5,rfl,ho5,hb5⟩
 have hs5:=Rd.bZ ho5
 obtain⟨p5,c5,rfl,b9l,b9q⟩:=hs5.form
 go_wp2_with fail
 have i1:=((((hs2.below hb3).below hb4).below hA2).below hb5)
 have a1:=i1
 have k1:=((hs4.below hA2).below hb5)
 have b1:=k1
 (with_reducible refine(IW _ _ _ _ _ a1 b1 (bK _) (bK _) (by omega) (by have:=hrl2.out;omega) (by have:=a0n.out;omega)).mono ?_)
 rintro e w6 ⟨s6,rfl,ho6,hb6⟩
 have hs6:=Rd.bZ ho6
 obtain⟨p6,c6,rfl,b9m,b9r⟩:=hs6.form
 go_wp2_with fail
 have a8D:=(((jU.to hA2).to hb5).to hb6)
 have a2F:=(((jQ.to hA2).to hb5).to hb6)
 have sZ:=(((vJ.to hA2).to hb5).to hb6)
 have GL:=(aP.mk (a8D.drew).bs2 (aP.mk (a2F.drew).bs2 (BN.of (sZ.drew))))
 have o0:dD (w.heap.size+1+1) (aP (BS2 w.heap.size (.bool b) (.slice p n c)) (aP (BS2 (w.heap.size+1) (.bool d) (.slice o m e)) (BN (w.heap.size+1+1+1)))):=(aP.hc (BS2.hc (by omega)) (aP.hc (BS2.hc (by omega)) BN.hc))
 have p0:dD (w.heap.size+1+1+1) (aP (BS2 w.heap.size (.bool b) (.slice p n c)) (aP (BS2 (w.heap.size+1) (.bool d) (.slice o m e)) (BN (w.heap.size+1+1+1)))):=(aP.hc (BS2.hc (by omega)) (aP.hc (BS2.hc (by omega)) BN.hc))
 have tk3:True:=trivial
 have tk4:True:=trivial
 go_region_held3 (aP (BS2 w.heap.size (.bool b) (.slice p n c)) (aP (BS2 (w.heap.size+1) (.bool d) (.slice o m e)) (BN (w.heap.size+1+1+1)))) (first|with_reducible exact GL|with_reducible exact gB.go (aP.hk BS2.hk (aP.hk BS2.hk BN.hk)) (by assumption) (by assumption)|with_reducible exact dD.go2 o0 (by assumption)|with_reducible exact dD.go2 p0 (by assumption)|(simp;done))
  (first
   | (((have:=tk3);clear tk3;have l1:=(hs5.below hb6);have d1:=l1.drew;go_at_call 114;(with_reducible refine(iF _ _ _ _ d1 (bK _)).mono ?_);rintro e w7 ⟨v7,rfl,hi7,hb7⟩;obtain⟨g7,p7,n7,c7,rfl⟩:=hi7.form))
   | (((have:=tk4);clear tk4;have m1:=(hs6.drew.below hb7);have f1:=m1;go_at_call 114;(with_reducible refine(iF _ _ _ _ f1 (bK _)).mono ?_);rintro e w8 ⟨v8,rfl,hi8,hb8⟩;obtain⟨g8,p8,n8,c8,rfl⟩:=hi8.form;have a2G:=(((((lK.to hA2).to hb5).to hb6).drew.to hb7).to hb8);obtain⟨a0,c0,b0,d0⟩:=a2G.cf2;have a2H:=((sZ.drew.to hb7).to hb8);obtain⟨e0,g0,f0,h0⟩:=a2H.cf2)))
 have g1:=(hi7.below hb8)
 have q0:=(Below.tr (Below.tr (Below.tr (Below.tr (Below.tr (Below.tr (Below.tr (Below.tr (Below.tr (Below.tr aY hA1).drew hb1) hb2) hb3) hb4) hA2) hb5) hb6).drew hb7) hb8)
 go_wp2_with fail
 exact bodyPost_ret (v:=.tuple #[.agg #[.bool g7,.slice p7 n7 c7],.agg #[.bool g8,.slice p8 n8 c8],.int .i64 0]) (by simp[results,Tryz.results110,go_sem,i0,j0,k0,l0,a0,c0,b0,d0,e0,g0,f0,h0]) rfl ⟨_,_,rfl,dK ((g1.aF a2G rfl rfl (.bool g7) (.slice p7 n7 c7)).aF (a2H.aJ (b:=w.heap.size+1+1) (by omega) (.bool g7) (.slice p7 n7 c7)) rfl rfl (.bool g8) (.slice p8 n8 c8)) HX.out.1,dK ((hi8.aF a2G rfl rfl (.bool g7) (.slice p7 n7 c7)).aF (a2H.aJ (b:=w.heap.size+1+1) (by omega) (.bool g7) (.slice p7 n7 c7)) rfl rfl (.bool g8) (.slice p8 n8 c8)) HX.out.2,(Below.aF (Below.aF q0 (b:=w.heap.size+1+1) (by omega) (.bool g7) (.slice p7 n7 c7)) (b:=w.heap.size+1+1+1) (by omega) (.bool g8) (.slice p8 n8 c8))⟩
theorem a5p (v u:Value) (x y:Int) (w:World) (hv:Raw w v x) (hu:Raw w u y) (hl:isz x<=1000000000) (hl2:isz y<=1000000000) (hy:y≠0) (hr:x.natAbs%y.natAbs=0) {b d:Bool} {p o:Option Addr} {n c m e:Nat} (ev:v=.agg #[.bool b,.slice p n c]) (eu:u=.agg #[.bool d,.slice o m e]) (hbd:(b != d)=false) :
  Calls Tryz.prog 110 #[v,u] w (MH (x.fdiv y) (x.fmod y) w):=by
 subst ev
 subst eu
 have hx1:=vM hv
 have hy1:=vM hu
 have hyp:0<y.natAbs:=by omega
 have HX:Hid (sg false (val (dig (val (dig x.natAbs) / val (dig y.natAbs))))=x.fdiv y/\sg d (val (dig (val (dig x.natAbs)%val (dig y.natAbs))))=x.fmod y):=by
  unfold Hid
  simp only[aK]
  obtain rfl:b=d:=by simpa using hbd
  have e1:=IB b x.natAbs _ hyp
  rw[hx1,hy1] at e1
  rw[e1.1,e1.2]
  simp[sg]
 have hlx:(dig x.natAbs).length<=1000000000:=hl
 have hly:(dig y.natAbs).length<=1000000000:=hl2
 have hyn:=oN hy
 have hy0:0<(dig y.natAbs).length:=List.length_pos_iff.2 hyn
 have a0n:Hid (val (dig (val (dig x.natAbs)%val (dig y.natAbs)))<=val (dig y.natAbs)):=by unfold Hid;simp only[aK];exact Nat.le_of_lt (Nat.mod_lt _ hyp)
 have hrl2:Hid ((dig (val (dig x.natAbs)%val (dig y.natAbs))).length<=(dig y.natAbs).length):=by unfold Hid;have:=aQ a0n.out;simpa only[aK] using this
 have hrl:Hid ((dig (val (dig x.natAbs)%val (dig y.natAbs))).length<=1000000000):=by have:=hrl2.out;unfold Hid;omega
 have hql:Hid ((dig (val (dig x.natAbs) / val (dig y.natAbs))).length<=1000000000):=by unfold Hid;simp only[aK];exact Nat.le_trans (aQ (Nat.div_le_self _ _)) hlx
 have OM:(dig (val (dig x.natAbs)%val (dig y.natAbs))).length=0:=by simp only[aK];rw[hr,dQ];rfl
 have hr1:decide (0<(dig (val (dig x.natAbs)%val (dig y.natAbs))).length)=false:=by simp only[OM];rfl
 have hr2:decide ((0:Int)<((dig (val (dig x.natAbs)%val (dig y.natAbs))).length:Int))=false:=by simp only[OM];rfl
 clear OM
 have hbd2:(!b==d)=false:=by rw[<-hbd];cases b<;>cases d<;>rfl
 clear hy hr hx1 hy1 hyp hl hl2
 have aY:Below w.heap.size w w:=Below.refl _ _
 go_enter Tryz.func110,Tryz.ntmps110
 go_wp2_with fail
 obtain⟨hA1,i0,j0,n0,o0⟩:=bx4 w rfl [.bool b,.slice p n c] 28 [.bool d,.slice o m e] 28 [.bool false,.slice none 0 0] 28 [.bool false,.slice none 0 0] 28
 have vT:=(aP.mk (i0.drew).bs2 (j0.drew).bs2)
 have tk1:True:=trivial
 have tk2:True:=trivial
 go_region_held3 (aP (BS2 w.heap.size (.bool b) (.slice p n c)) (BS2 (w.heap.size+1) (.bool d) (.slice o m e))) (first|with_reducible exact vT|with_reducible exact gB.go (aP.hk BS2.hk BS2.hk) (by assumption) (by assumption)|(simp;done))
  (first
   | (((have:=tk1);clear tk1;have p0:=(hv.below hA1).drew;go_at_call 119;(with_reducible refine(dP _ (x) _ p0).mono ?_);rintro e w1 ⟨s1,rfl,hs1,hb1⟩;obtain⟨p1,c1,rfl,a0k,a0m⟩:=hs1.form))
   | (((have:=tk2);clear tk2;have iU:=((hu.below hA1).drew.below hb1);have q0:=iU;go_at_call 119;(with_reducible refine(dP _ (y) _ q0).mono ?_);rintro e w2 ⟨s2,rfl,hs2,hb2⟩;obtain⟨p2,c2,rfl,a9P,a9T⟩:=hs2.form)))
 go_wp2_with fail
 have x0:=(hs1.below hb2)
 have r0:=x0
 have s0:=hs2
 (with_reducible refine(sH _ _ _ _ _ r0 s0 (bH _) (bH _) hlx hyn).mono ?_)
 rintro e w3 ⟨s3,t3,rfl,hs3,ht3,hb3⟩
 obtain⟨p3,c3,rfl,SB,SC⟩:=hs3.form
 obtain⟨o3,d3,rfl,hlo3,XE⟩:=ht3.form
 go_wp2_with fail
 have t0:=ht3
 (with_reducible refine(clone_any _ _ _ t0 (by have:=hrl.out;omega)).mono ?_)
 rintro e w4 ⟨s4,rfl,ho4,hb4⟩
 have hs4:=Rd.bZ ho4
 obtain⟨p4,c4,rfl,a7J,a7M⟩:=hs4.form
 go_wp2_with fail
 have jU:=((((i0.drew.to hb1).to hb2).to hb3).to hb4)
 have jQ:=((((j0.drew.to hb1).to hb2).to hb3).to hb4)
 have vJ:=((((o0.drew.to hb1).to hb2).to hb3).to hb4)
 have GL:=(aP.mk (jU.drew).bs2 (aP.mk (jQ.drew).bs2 (BN.of (vJ.drew))))
 have k0:dD (w.heap.size+1+1) (aP (BS2 w.heap.size (.bool b) (.slice p n c)) (aP (BS2 (w.heap.size+1) (.bool d) (.slice o m e)) (BN (w.heap.size+1+1+1)))):=(aP.hc (BS2.hc (by omega)) (aP.hc (BS2.hc (by omega)) BN.hc))
 have l0:dD (w.heap.size+1+1+1) (aP (BS2 w.heap.size (.bool b) (.slice p n c)) (aP (BS2 (w.heap.size+1) (.bool d) (.slice o m e)) (BN (w.heap.size+1+1+1)))):=(aP.hc (BS2.hc (by omega)) (aP.hc (BS2.hc (by omega)) BN.hc))
 have tk3:True:=trivial
 have tk4:True:=trivial
 go_region_held3 (aP (BS2 w.heap.size (.bool b) (.slice p n c)) (aP (BS2 (w.heap.size+1) (.bool d) (.slice o m e)) (BN (w.heap.size+1+1+1)))) (first|with_reducible exact GL|with_reducible exact gB.go (aP.hk BS2.hk (aP.hk BS2.hk BN.hk)) (by assumption) (by assumption)|with_reducible exact dD.go2 k0 (by assumption)|with_reducible exact dD.go2 l0 (by assumption)|(simp;done))
  (first
   | (((have:=tk3);clear tk3;have y0:=(hs3.below hb4);have u0:=y0.drew;go_at_call 114;(with_reducible refine(iF _ _ _ _ u0 (bK _)).mono ?_);rintro e w5 ⟨v5,rfl,hi5,hb5⟩;obtain⟨g5,p5,n5,c5,rfl⟩:=hi5.form))
   | (((have:=tk4);clear tk4;have z0:=(hs4.drew.below hb5);have v0:=z0;go_at_call 114;(with_reducible refine(iF _ _ _ _ v0 (bK _)).mono ?_);rintro e w6 ⟨v6,rfl,hi6,hb6⟩;obtain⟨g6,p6,n6,c6,rfl⟩:=hi6.form;have qC:=((((((n0.drew.to hb1).to hb2).to hb3).to hb4).drew.to hb5).to hb6);obtain⟨a0,c0,b0,d0⟩:=qC.cf2;have sZ:=((vJ.drew.to hb5).to hb6);obtain⟨e0,g0,f0,h0⟩:=sZ.cf2)))
 have w0:=(hi5.below hb6)
 have m0:=(Below.tr (Below.tr (Below.tr (Below.tr (Below.tr (Below.tr (Below.tr aY hA1).drew hb1) hb2) hb3) hb4).drew hb5) hb6)
 go_wp2_with fail
 exact bodyPost_ret (v:=.tuple #[.agg #[.bool g5,.slice p5 n5 c5],.agg #[.bool g6,.slice p6 n6 c6],.int .i64 0]) (by simp[results,Tryz.results110,go_sem,a0,c0,b0,d0,e0,g0,f0,h0]) rfl ⟨_,_,rfl,dK ((w0.aF qC rfl rfl (.bool g5) (.slice p5 n5 c5)).aF (sZ.aJ (b:=w.heap.size+1+1) (by omega) (.bool g5) (.slice p5 n5 c5)) rfl rfl (.bool g6) (.slice p6 n6 c6)) HX.out.1,dK ((hi6.aF qC rfl rfl (.bool g5) (.slice p5 n5 c5)).aF (sZ.aJ (b:=w.heap.size+1+1) (by omega) (.bool g5) (.slice p5 n5 c5)) rfl rfl (.bool g6) (.slice p6 n6 c6)) HX.out.2,(Below.aF (Below.aF m0 (b:=w.heap.size+1+1) (by omega) (.bool g5) (.slice p5 n5 c5)) (b:=w.heap.size+1+1+1) (by omega) (.bool g6) (.slice p6 n6 c6))⟩
theorem a5n (v u:Value) (x y:Int) (w:World) (hv:Raw w v x) (hu:Raw w u y) (hl:isz x<=1000000000) (hl2:isz y<=1000000000) (hy:y≠0) (hr:x.natAbs%y.natAbs=0) {b d:Bool} {p o:Option Addr} {n c m e:Nat} (ev:v=.agg #[.bool b,.slice p n c]) (eu:u=.agg #[.bool d,.slice o m e]) (hbd:(b != d)=true) :
  Calls Tryz.prog 110 #[v,u] w (MH (x.fdiv y) (x.fmod y) w):=by
 subst ev
 subst eu
 have hx1:=vM hv
 have hy1:=vM hu
 have hyp:0<y.natAbs:=by omega
 have HX:Hid (sg true (val (dig (val (dig x.natAbs) / val (dig y.natAbs))))=x.fdiv y/\sg d (val (dig (val (dig x.natAbs)%val (dig y.natAbs))))=x.fmod y):=by
  unfold Hid
  simp only[aK]
  have e1:=NW b d _ _ hyp hbd hr
  skip
  rw[hx1,hy1] at e1
  rw[e1.1,e1.2]
  simp[sg,hr]
 have hlx:(dig x.natAbs).length<=1000000000:=hl
 have hly:(dig y.natAbs).length<=1000000000:=hl2
 have hyn:=oN hy
 have hy0:0<(dig y.natAbs).length:=List.length_pos_iff.2 hyn
 have a0n:Hid (val (dig (val (dig x.natAbs)%val (dig y.natAbs)))<=val (dig y.natAbs)):=by unfold Hid;simp only[aK];exact Nat.le_of_lt (Nat.mod_lt _ hyp)
 have hrl2:Hid ((dig (val (dig x.natAbs)%val (dig y.natAbs))).length<=(dig y.natAbs).length):=by unfold Hid;have:=aQ a0n.out;simpa only[aK] using this
 have hrl:Hid ((dig (val (dig x.natAbs)%val (dig y.natAbs))).length<=1000000000):=by have:=hrl2.out;unfold Hid;omega
 have hql:Hid ((dig (val (dig x.natAbs) / val (dig y.natAbs))).length<=1000000000):=by unfold Hid;simp only[aK];exact Nat.le_trans (aQ (Nat.div_le_self _ _)) hlx
 have OM:(dig (val (dig x.natAbs)%val (dig y.natAbs))).length=0:=by simp only[aK];rw[hr,dQ];rfl
 have hr1:decide (0<(dig (val (dig x.natAbs)%val (dig y.natAbs))).length)=false:=by simp only[OM];rfl
 have hr2:decide ((0:Int)<((dig (val (dig x.natAbs)%val (dig y.natAbs))).length:Int))=false:=by simp only[OM];rfl
 clear OM
 have hbd2:(!b==d)=true:=by rw[<-hbd];cases b<;>cases d<;>rfl
 clear hy hr hx1 hy1 hyp hl hl2
 have aY:Below w.heap.size w w:=Below.refl _ _
 go_enter Tryz.func110,Tryz.ntmps110
 go_wp2_with fail
 obtain⟨hA1,i0,j0,n0,o0⟩:=bx4 w rfl [.bool b,.slice p n c] 28 [.bool d,.slice o m e] 28 [.bool false,.slice none 0 0] 28 [.bool false,.slice none 0 0] 28
 have vT:=(aP.mk (i0.drew).bs2 (j0.drew).bs2)
 have tk1:True:=trivial
 have tk2:True:=trivial
 go_region_held3 (aP (BS2 w.heap.size (.bool b) (.slice p n c)) (BS2 (w.heap.size+1) (.bool d) (.slice o m e))) (first|with_reducible exact vT|with_reducible exact gB.go (aP.hk BS2.hk BS2.hk) (by assumption) (by assumption)|(simp;done))
  (first
   | (((have:=tk1);clear tk1;have p0:=(hv.below hA1).drew;go_at_call 119;(with_reducible refine(dP _ (x) _ p0).mono ?_);rintro e w1 ⟨s1,rfl,hs1,hb1⟩;obtain⟨p1,c1,rfl,a0k,a0m⟩:=hs1.form))
   | (((have:=tk2);clear tk2;have iU:=((hu.below hA1).drew.below hb1);have q0:=iU;go_at_call 119;(with_reducible refine(dP _ (y) _ q0).mono ?_);rintro e w2 ⟨s2,rfl,hs2,hb2⟩;obtain⟨p2,c2,rfl,a9P,a9T⟩:=hs2.form)))
 go_wp2_with fail
 have x0:=(hs1.below hb2)
 have r0:=x0
 have s0:=hs2
 (with_reducible refine(sH _ _ _ _ _ r0 s0 (bH _) (bH _) hlx hyn).mono ?_)
 rintro e w3 ⟨s3,t3,rfl,hs3,ht3,hb3⟩
 obtain⟨p3,c3,rfl,SB,SC⟩:=hs3.form
 obtain⟨o3,d3,rfl,hlo3,XE⟩:=ht3.form
 go_wp2_with fail
 have t0:=ht3
 (with_reducible refine(clone_any _ _ _ t0 (by have:=hrl.out;omega)).mono ?_)
 rintro e w4 ⟨s4,rfl,ho4,hb4⟩
 have hs4:=Rd.bZ ho4
 obtain⟨p4,c4,rfl,a7J,a7M⟩:=hs4.form
 go_wp2_with fail
 have jU:=((((i0.drew.to hb1).to hb2).to hb3).to hb4)
 have jQ:=((((j0.drew.to hb1).to hb2).to hb3).to hb4)
 have vJ:=((((o0.drew.to hb1).to hb2).to hb3).to hb4)
 have GL:=(aP.mk (jU.drew).bs2 (aP.mk (jQ.drew).bs2 (BN.of (vJ.drew))))
 have k0:dD (w.heap.size+1+1) (aP (BS2 w.heap.size (.bool b) (.slice p n c)) (aP (BS2 (w.heap.size+1) (.bool d) (.slice o m e)) (BN (w.heap.size+1+1+1)))):=(aP.hc (BS2.hc (by omega)) (aP.hc (BS2.hc (by omega)) BN.hc))
 have l0:dD (w.heap.size+1+1+1) (aP (BS2 w.heap.size (.bool b) (.slice p n c)) (aP (BS2 (w.heap.size+1) (.bool d) (.slice o m e)) (BN (w.heap.size+1+1+1)))):=(aP.hc (BS2.hc (by omega)) (aP.hc (BS2.hc (by omega)) BN.hc))
 have tk3:True:=trivial
 have tk4:True:=trivial
 go_region_held3 (aP (BS2 w.heap.size (.bool b) (.slice p n c)) (aP (BS2 (w.heap.size+1) (.bool d) (.slice o m e)) (BN (w.heap.size+1+1+1)))) (first|with_reducible exact GL|with_reducible exact gB.go (aP.hk BS2.hk (aP.hk BS2.hk BN.hk)) (by assumption) (by assumption)|with_reducible exact dD.go2 k0 (by assumption)|with_reducible exact dD.go2 l0 (by assumption)|(simp;done))
  (first
   | (((have:=tk3);clear tk3;have y0:=(hs3.below hb4);have u0:=y0.drew;go_at_call 114;(with_reducible refine(iF _ _ _ _ u0 (bK _)).mono ?_);rintro e w5 ⟨v5,rfl,hi5,hb5⟩;obtain⟨g5,p5,n5,c5,rfl⟩:=hi5.form))
   | (((have:=tk4);clear tk4;have z0:=(hs4.drew.below hb5);have v0:=z0;go_at_call 114;(with_reducible refine(iF _ _ _ _ v0 (bK _)).mono ?_);rintro e w6 ⟨v6,rfl,hi6,hb6⟩;obtain⟨g6,p6,n6,c6,rfl⟩:=hi6.form;have qC:=((((((n0.drew.to hb1).to hb2).to hb3).to hb4).drew.to hb5).to hb6);obtain⟨a0,c0,b0,d0⟩:=qC.cf2;have sZ:=((vJ.drew.to hb5).to hb6);obtain⟨e0,g0,f0,h0⟩:=sZ.cf2)))
 have w0:=(hi5.below hb6)
 have m0:=(Below.tr (Below.tr (Below.tr (Below.tr (Below.tr (Below.tr (Below.tr aY hA1).drew hb1) hb2) hb3) hb4).drew hb5) hb6)
 go_wp2_with fail
 exact bodyPost_ret (v:=.tuple #[.agg #[.bool g5,.slice p5 n5 c5],.agg #[.bool g6,.slice p6 n6 c6],.int .i64 0]) (by simp[results,Tryz.results110,go_sem,a0,c0,b0,d0,e0,g0,f0,h0]) rfl ⟨_,_,rfl,dK ((w0.aF qC rfl rfl (.bool g5) (.slice p5 n5 c5)).aF (sZ.aJ (b:=w.heap.size+1+1) (by omega) (.bool g5) (.slice p5 n5 c5)) rfl rfl (.bool g6) (.slice p6 n6 c6)) HX.out.1,dK ((hi6.aF qC rfl rfl (.bool g5) (.slice p5 n5 c5)).aF (sZ.aJ (b:=w.heap.size+1+1) (by omega) (.bool g5) (.slice p5 n5 c5)) rfl rfl (.bool g6) (.slice p6 n6 c6)) HX.out.2,(Below.aF (Below.aF m0 (b:=w.heap.size+1+1) (by omega) (.bool g5) (.slice p5 n5 c5)) (b:=w.heap.size+1+1+1) (by omega) (.bool g6) (.slice p6 n6 c6))⟩
theorem oK (v u:Value) (x y:Int) (w:World) (hv:Raw w v x) (hu:Raw w u y) (hl:isz x<=1000000000) (hl2:isz y<=1000000000) (hy:y≠0) :
  Calls Tryz.prog 110 #[v,u] w (MH (x.fdiv y) (x.fmod y) w):=by
 obtain⟨b,p,n,c,ev⟩:=hv.form
 obtain⟨d,o,m,e,eu⟩:=hu.form
 by_cases hr:x.natAbs%y.natAbs=0
 ·cases hbd:(b != d)
  ·exact a5p v u x y w hv hu hl hl2 hy hr ev eu hbd
  ·exact a5n v u x y w hv hu hl hl2 hy hr ev eu hbd
 ·cases hbd:(b != d)
  ·exact a5q v u x y w hv hu hl hl2 hy hr ev eu hbd
  ·exact a5o v u x y w hv hu hl hl2 hy hr ev eu hbd
end Go.Proofs.YtidfgdchcpmnfaaGreat
