/-
  Lemmas for the theorem vinliers_holds, part 6 of 32.
-/
import Derived.Test.YtbkocjmmbkifjaaGreatQi05
namespace Go.Proofs.YtbkocjmmbkifjaaGreat
open Go Go.RowKit
theorem Dy:type_of% @Nat.le_of_lt:=@Nat.le_of_lt
set_option linter.unusedSimpArgs false
set_option linter.unusedVariables false
theorem bx1 (w:World) {n:Nat} (h:w.heap.size=n) (c0:List Value) (t0:TypeId):Below w.heap.size w (w.alloc (.cells c0.toArray t0))/\Bx (w.alloc (.cells c0.toArray t0)) (n) c0:=by
 subst h
 exact⟨(bg _ _).alloc (ak _) _,by have:=(Bx.new w c0 t0);simpa using this⟩
theorem bx2 (w:World) {n:Nat} (h:w.heap.size=n) (c0:List Value) (t0:TypeId) (c1:List Value) (t1:TypeId):Below w.heap.size w ((w.alloc (.cells c0.toArray t0)).alloc (.cells c1.toArray t1))/\Bx ((w.alloc (.cells c0.toArray t0)).alloc (.cells c1.toArray t1)) (n) c0/\Bx ((w.alloc (.cells c0.toArray t0)).alloc (.cells c1.toArray t1)) (n+1) c1:=by
 subst h
 exact⟨Below.al ((bg _ _).alloc (ak _) _) _,by have:=((Bx.new w c0 t0).alloc (.cells c1.toArray t1));simpa using this,by have:=(Bx.new (w.alloc (.cells c0.toArray t0)) c1 t1);simpa using this⟩
theorem bx3 (w:World) {n:Nat} (h:w.heap.size=n) (c0:List Value) (t0:TypeId) (c1:List Value) (t1:TypeId) (c2:List Value) (t2:TypeId):Below w.heap.size w (((w.alloc (.cells c0.toArray t0)).alloc (.cells c1.toArray t1)).alloc (.cells c2.toArray t2))/\Bx (((w.alloc (.cells c0.toArray t0)).alloc (.cells c1.toArray t1)).alloc (.cells c2.toArray t2)) (n) c0/\Bx (((w.alloc (.cells c0.toArray t0)).alloc (.cells c1.toArray t1)).alloc (.cells c2.toArray t2)) (n+1) c1/\Bx (((w.alloc (.cells c0.toArray t0)).alloc (.cells c1.toArray t1)).alloc (.cells c2.toArray t2)) (n+1+1) c2:=by
 subst h
 exact⟨Below.al (Below.al ((bg _ _).alloc (ak _) _) _) _,by have:=(((Bx.new w c0 t0).alloc (.cells c1.toArray t1)).alloc (.cells c2.toArray t2));simpa using this,by have:=((Bx.new (w.alloc (.cells c0.toArray t0)) c1 t1).alloc (.cells c2.toArray t2));simpa using this,by have:=(Bx.new ((w.alloc (.cells c0.toArray t0)).alloc (.cells c1.toArray t1)) c2 t2);simpa using this⟩
theorem bx4 (w:World) {n:Nat} (h:w.heap.size=n) (c0:List Value) (t0:TypeId) (c1:List Value) (t1:TypeId) (c2:List Value) (t2:TypeId) (c3:List Value) (t3:TypeId):Below w.heap.size w ((((w.alloc (.cells c0.toArray t0)).alloc (.cells c1.toArray t1)).alloc (.cells c2.toArray t2)).alloc (.cells c3.toArray t3))/\Bx ((((w.alloc (.cells c0.toArray t0)).alloc (.cells c1.toArray t1)).alloc (.cells c2.toArray t2)).alloc (.cells c3.toArray t3)) (n) c0/\Bx ((((w.alloc (.cells c0.toArray t0)).alloc (.cells c1.toArray t1)).alloc (.cells c2.toArray t2)).alloc (.cells c3.toArray t3)) (n+1) c1/\Bx ((((w.alloc (.cells c0.toArray t0)).alloc (.cells c1.toArray t1)).alloc (.cells c2.toArray t2)).alloc (.cells c3.toArray t3)) (n+1+1) c2/\Bx ((((w.alloc (.cells c0.toArray t0)).alloc (.cells c1.toArray t1)).alloc (.cells c2.toArray t2)).alloc (.cells c3.toArray t3)) (n+1+1+1) c3:=by
 subst h
 exact⟨Below.al (Below.al (Below.al ((bg _ _).alloc (ak _) _) _) _) _,by have:=((((Bx.new w c0 t0).alloc (.cells c1.toArray t1)).alloc (.cells c2.toArray t2)).alloc (.cells c3.toArray t3));simpa using this,by have:=(((Bx.new (w.alloc (.cells c0.toArray t0)) c1 t1).alloc (.cells c2.toArray t2)).alloc (.cells c3.toArray t3));simpa using this,by have:=((Bx.new ((w.alloc (.cells c0.toArray t0)).alloc (.cells c1.toArray t1)) c2 t2).alloc (.cells c3.toArray t3));simpa using this,by have:=(Bx.new (((w.alloc (.cells c0.toArray t0)).alloc (.cells c1.toArray t1)).alloc (.cells c2.toArray t2)) c3 t3);simpa using this⟩
theorem Bx.cs2 {w:World} {b:Nat} {u0 u1:Value} (h:Bx w b [u0,u1]):w.cell? ⟨b,0,none⟩=some u0/\w.cell? ⟨b,1,none⟩=some u1 :=
 ⟨(h.2 0 u0 rfl).1,(h.2 1 u1 rfl).1⟩
theorem Bx.cs4 {w:World} {b:Nat} {u0 u1 u2 u3:Value} (h:Bx w b [u0,u1,u2,u3]):w.cell? ⟨b,0,none⟩=some u0/\w.cell? ⟨b,1,none⟩=some u1/\w.cell? ⟨b,2,none⟩=some u2/\w.cell? ⟨b,3,none⟩=some u3 :=
 ⟨(h.2 0 u0 rfl).1,(h.2 1 u1 rfl).1,(h.2 2 u2 rfl).1,(h.2 3 u3 rfl).1⟩
theorem Bx.cf2 {w:World} {b:Nat} {u0 u1:Value} (h:Bx w b [u0,u1]):w.cell? ⟨b,0,none⟩=some u0/\w.frozen? ⟨b,0,none⟩=false/\w.cell? ⟨b,1,none⟩=some u1/\w.frozen? ⟨b,1,none⟩=false :=
 ⟨(h.2 0 u0 rfl).1,(h.2 0 u0 rfl).2,(h.2 1 u1 rfl).1,(h.2 1 u1 rfl).2⟩
theorem Bx.cf4 {w:World} {b:Nat} {u0 u1 u2 u3:Value} (h:Bx w b [u0,u1,u2,u3]):w.cell? ⟨b,0,none⟩=some u0/\w.frozen? ⟨b,0,none⟩=false/\w.cell? ⟨b,1,none⟩=some u1/\w.frozen? ⟨b,1,none⟩=false/\w.cell? ⟨b,2,none⟩=some u2/\w.frozen? ⟨b,2,none⟩=false/\w.cell? ⟨b,3,none⟩=some u3/\w.frozen? ⟨b,3,none⟩=false :=
 ⟨(h.2 0 u0 rfl).1,(h.2 0 u0 rfl).2,(h.2 1 u1 rfl).1,(h.2 1 u1 rfl).2,(h.2 2 u2 rfl).1,(h.2 2 u2 rfl).2,(h.2 3 u3 rfl).1,(h.2 3 u3 rfl).2⟩
def fG (S:World->Prop):Prop:=∀ A B:World,S A->Below A.heap.size A B->S B
def dB (b:Nat) (S:World->Prop):Prop:=∀ (A:World) (j:Nat) (x:Value),S A->S (A.setCell ⟨b,j,none⟩ x)
theorem fG.go {S:World->Prop} (h:fG S) {A B:World} (hS:S A) (hb:Below A.heap.size A B):S B:=h A B hS hb
theorem dB.go2 {S:World->Prop} {b:Nat} (h:dB b S) {A:World} {x0 x1:Value} (hS:S A):S ((A.setCell ⟨b,0,none⟩ x0).setCell ⟨b,1,none⟩ x1):=(h _ _ _ (h _ _ _ hS))
theorem dB.go4 {S:World->Prop} {b:Nat} (h:dB b S) {A:World} {x0 x1 x2 x3:Value} (hS:S A):S ((((A.setCell ⟨b,0,none⟩ x0).setCell ⟨b,1,none⟩ x1).setCell ⟨b,2,none⟩ x2).setCell ⟨b,3,none⟩ x3):=(h _ _ _ (h _ _ _ (h _ _ _ (h _ _ _ hS))))
abbrev aK (S T:World->Prop) (w:World):Prop:=S w/\T w
theorem aK.mk {S T:World->Prop} {w:World} (x:S w) (y:T w):aK S T w:=⟨x,y⟩
theorem aK.hk {S T:World->Prop} (h:fG S) (h':fG T):fG (aK S T):=fun A B x hb=>⟨h A B x.1 hb,h' A B x.2 hb⟩
theorem aK.hc {S T:World->Prop} {b:Nat} (h:dB b S) (h':dB b T):dB b (aK S T):=fun A j v x=>⟨h A j v x.1,h' A j v x.2⟩
abbrev BT (w:World):Prop:=True
theorem BT.of (w:World):BT w:=trivial
theorem BT.hk:fG BT:=fun _ _ _ _=>trivial
theorem BT.hc {b:Nat}:dB b BT:=fun _ _ _ _=>trivial
abbrev BN (b:Nat) (w:World):Prop:=b<w.heap.size
theorem BN.of {w:World} {b:Nat} {cs:List Value} (h:Bx w b cs):BN b w:=h.1
theorem BN.hk {b:Nat}:fG (BN b):=fun A B x hb=>ni x hb.size
theorem BN.hc {b b':Nat}:dB b' (BN b):=fun A j v x=>by simpa [World.setCell] using x
abbrev BC (b o:Nat) (u:Value) (w:World):Prop:=w.cell? ⟨b,o,none⟩=some u/\b<w.heap.size
theorem BC.of {w w':World} {b o:Nat} {u:Value} (hb:Below w.heap.size w w') (hl:b<w.heap.size) (hc:w.cell? ⟨b,o,none⟩=some u):BC b o u w':=⟨((eY hb).1 _ _ hl).trans hc,ni hl hb.size⟩
theorem BC.at {w w':World} {b o:Nat} {u:Value} (h:BC b o u w) (hb:Below w.heap.size w w'):w'.cell? ⟨b,o,none⟩=some u:=((eY hb).1 _ _ h.2).trans h.1
theorem BC.hk {b o:Nat} {u:Value}:fG (BC b o u):=fun A B x hb=>⟨((eY hb).1 _ _ x.2).trans x.1,ni x.2 hb.size⟩
theorem BC.hc {b b' o:Nat} {u:Value} (h:b≠b'):dB b' (BC b o u):=fun A j v x=>⟨(jd _ _ _ _ (fun e=>h e.symm)).trans x.1,by simpa [World.setCell] using x.2⟩
abbrev BS1 (b:Nat) (u0:Value) (w:World):Prop:=w.cell? ⟨b,0,none⟩=some u0/\b<w.heap.size
theorem BS1.hk {b:Nat} {u0:Value}:fG (BS1 b u0):=fun A B ⟨h0,hl⟩ hb=>⟨((eY hb).1 _ _ hl).trans h0,ni hl hb.size⟩
theorem BS1.hc {b b':Nat} {u0:Value} (h:b≠b'):dB b' (BS1 b u0):=fun A j v ⟨h0,hl⟩=>⟨(jd _ _ _ _ (fun e=>h e.symm)).trans h0,by simpa [World.setCell] using hl⟩
abbrev BS2 (b:Nat) (u0 u1:Value) (w:World):Prop:=w.cell? ⟨b,0,none⟩=some u0/\w.cell? ⟨b,1,none⟩=some u1/\b<w.heap.size
theorem Bx.bs2 {w:World} {b:Nat} {u0 u1:Value} (h:Bx w b [u0,u1]):BS2 b u0 u1 w:=⟨(h.2 0 u0 rfl).1,(h.2 1 u1 rfl).1,h.1⟩
theorem BS2.hk {b:Nat} {u0 u1:Value}:fG (BS2 b u0 u1):=fun A B ⟨h0,h1,hl⟩ hb=>⟨((eY hb).1 _ _ hl).trans h0,((eY hb).1 _ _ hl).trans h1,ni hl hb.size⟩
theorem BS2.hc {b b':Nat} {u0 u1:Value} (h:b≠b'):dB b' (BS2 b u0 u1):=fun A j v ⟨h0,h1,hl⟩=>⟨(jd _ _ _ _ (fun e=>h e.symm)).trans h0,(jd _ _ _ _ (fun e=>h e.symm)).trans h1,by simpa [World.setCell] using hl⟩
abbrev BS4 (b:Nat) (u0 u1 u2 u3:Value) (w:World):Prop:=w.cell? ⟨b,0,none⟩=some u0/\w.cell? ⟨b,1,none⟩=some u1/\w.cell? ⟨b,2,none⟩=some u2/\w.cell? ⟨b,3,none⟩=some u3/\b<w.heap.size
theorem Bx.bs4 {w:World} {b:Nat} {u0 u1 u2 u3:Value} (h:Bx w b [u0,u1,u2,u3]):BS4 b u0 u1 u2 u3 w:=⟨(h.2 0 u0 rfl).1,(h.2 1 u1 rfl).1,(h.2 2 u2 rfl).1,(h.2 3 u3 rfl).1,h.1⟩
theorem BS4.hk {b:Nat} {u0 u1 u2 u3:Value}:fG (BS4 b u0 u1 u2 u3):=fun A B ⟨h0,h1,h2,h3,hl⟩ hb=>⟨((eY hb).1 _ _ hl).trans h0,((eY hb).1 _ _ hl).trans h1,((eY hb).1 _ _ hl).trans h2,((eY hb).1 _ _ hl).trans h3,ni hl hb.size⟩
theorem BS4.hc {b b':Nat} {u0 u1 u2 u3:Value} (h:b≠b'):dB b' (BS4 b u0 u1 u2 u3):=fun A j v ⟨h0,h1,h2,h3,hl⟩=>⟨(jd _ _ _ _ (fun e=>h e.symm)).trans h0,(jd _ _ _ _ (fun e=>h e.symm)).trans h1,(jd _ _ _ _ (fun e=>h e.symm)).trans h2,(jd _ _ _ _ (fun e=>h e.symm)).trans h3,by simpa [World.setCell] using hl⟩
abbrev BS8 (b:Nat) (u0 u1 u2 u3 u4 u5 u6 u7:Value) (w:World):Prop:=w.cell? ⟨b,0,none⟩=some u0/\w.cell? ⟨b,1,none⟩=some u1/\w.cell? ⟨b,2,none⟩=some u2/\w.cell? ⟨b,3,none⟩=some u3/\w.cell? ⟨b,4,none⟩=some u4/\w.cell? ⟨b,5,none⟩=some u5/\w.cell? ⟨b,6,none⟩=some u6/\w.cell? ⟨b,7,none⟩=some u7/\b<w.heap.size
theorem BS8.hk {b:Nat} {u0 u1 u2 u3 u4 u5 u6 u7:Value}:fG (BS8 b u0 u1 u2 u3 u4 u5 u6 u7):=fun A B ⟨h0,h1,h2,h3,h4,h5,h6,h7,hl⟩ hb=>⟨((eY hb).1 _ _ hl).trans h0,((eY hb).1 _ _ hl).trans h1,((eY hb).1 _ _ hl).trans h2,((eY hb).1 _ _ hl).trans h3,((eY hb).1 _ _ hl).trans h4,((eY hb).1 _ _ hl).trans h5,((eY hb).1 _ _ hl).trans h6,((eY hb).1 _ _ hl).trans h7,ni hl hb.size⟩
theorem BS8.hc {b b':Nat} {u0 u1 u2 u3 u4 u5 u6 u7:Value} (h:b≠b'):dB b' (BS8 b u0 u1 u2 u3 u4 u5 u6 u7):=fun A j v ⟨h0,h1,h2,h3,h4,h5,h6,h7,hl⟩=>⟨(jd _ _ _ _ (fun e=>h e.symm)).trans h0,(jd _ _ _ _ (fun e=>h e.symm)).trans h1,(jd _ _ _ _ (fun e=>h e.symm)).trans h2,(jd _ _ _ _ (fun e=>h e.symm)).trans h3,(jd _ _ _ _ (fun e=>h e.symm)).trans h4,(jd _ _ _ _ (fun e=>h e.symm)).trans h5,(jd _ _ _ _ (fun e=>h e.symm)).trans h6,(jd _ _ _ _ (fun e=>h e.symm)).trans h7,by simpa [World.setCell] using hl⟩
set_option maxRecDepth 100000
set_option maxHeartbeats 2000000
theorem Canon.pos {b:List Nat} (hb:Canon b) (h:b≠[]):0<val b:=by
 rcases yj (val b) with h0|h0
 ·have:=dN hb
  rw[h0,dL] at this
  exact absurd this.symm h
 ·exact h0
def WI (l m:List Nat) (w:World) (e:Ending) (w':World):Prop:=∃ v1 v2,e=.returned (.tuple #[v1,v2])/\Rd w' v1 l/\Rd w' v2 m/\Below w.heap.size w w'
theorem b1U (s t:Value) (a b:List Nat) (w:World) (hs:Rd w s a) (ht:Rd w t b) (ha:Canon a) (hb:Canon b) (la:a.length<=1000000000) (hb0:b≠[]) (hlt:val a<val b) :
  Calls Tryz.prog 251 #[s,t] w (WI (dig (val a / val b)) (dig (val a%val b)) w):=by
 have hbp:=hb.pos hb0
 obtain⟨p,c,rfl,hc1,hc2⟩:=hs.form
 obtain⟨q,d,rfl,hd1,hd2⟩:=ht.form
 have HX:Hid (dig (val a / val b)=[]/\dig (val a%val b)=a):=by
  refine⟨by rw[Dv hlt,dL],by rw[Cj hlt,dN ha]⟩
 have hcv:dF (val a) (val b)=-1:=by unfold dF;rw[jq (by omega)]
 have HCV:=bn hcv
 clear hcv hlt hbp
 go_enter Tryz.func251,Tryz.ntmps251
 go_wp2_with fail
 refine(iW _ _ a b _ hs ht ha hb).mono ?_
 rw[HCV.out]
 rintro e w1 ⟨rfl,hb1⟩
 go_wp2_with fail
 go_ret2
 exact⟨_,_,rfl,by rw[HX.out.1];exact Rd.nil _,by rw[HX.out.2];exact hs.below hb1,hb1⟩
theorem a2s (s t:Value) (a b:List Nat) (w:World) (hs:Rd w s a) (ht:Rd w t b) (ha:Canon a) (hb:Canon b) (la:a.length<=1000000000) (hb0:b≠[]) (hle:val b<=val a) (ha2:a.length<=2) :
  Calls Tryz.prog 251 #[s,t] w (WI (dig (val a / val b)) (dig (val a%val b)) w):=by
 have hbp:=hb.pos hb0
 obtain⟨p,c,rfl,hc1,hc2⟩:=hs.form
 obtain⟨q,d,rfl,hd1,hd2⟩:=ht.form
 have hlen:b.length<=a.length:=by
  have:=aJ hle
  rwa [dN ha,dN hb] at this
 have hb1':1<=b.length:=oq.2 hb0
 have hc:0<=dF (val a) (val b):=by unfold dF;rw[jk (by omega)];split<;>omega
 obtain⟨cv,hcv⟩:∃ cv,dF (val a) (val b)=cv:=⟨_,rfl⟩
 rw[hcv] at hc
 have hdc:decide (cv<0)=false:=by simpa using hc
 have HCV:=bn hcv
 have HLE:=bn hle
 have HBP:=bn hbp
 clear hcv hle hbp hc
 have hb2:b.length<=2:=by omega
 have hA:val a<=999999999999999999:=by
  have h1:=mG ha.1
  have h2:BB ^ a.length<=BB ^ 2:=yc gV ha2
  rw[bI] at h1 h2
  omega
 have hbv:0<val b:=HBP.out
 have b9b:val b<=val a:=HLE.out
 obtain⟨A,hA'⟩:∃ A,val a=A:=⟨_,rfl⟩
 obtain⟨B,hB'⟩:∃ B,val b=B:=⟨_,rfl⟩
 rw[hA'] at hA b9b ⊢
 rw[hB'] at hbv b9b ⊢
 have hq1:A / B<=A:=Ad _ _
 have hr1:A%B<B:=wu _ hbv
 obtain⟨Q,hQ⟩:∃ Q,A / B=Q:=⟨_,rfl⟩
 obtain⟨R,hR⟩:∃ R,A%B=R:=⟨_,rfl⟩
 rw[hQ] at hq1 ⊢
 rw[hR] at hr1 ⊢
 have i1:(A:Int) / B=Q:=by rw[<-hQ];simp
 have i2:(A:Int)%B=R:=by rw[<-hR];simp
 have i3:(A:Int).tmod B=R:=by rw[Bg (by omega)];exact i2
 have w1:IntKind.u64.wrap (Q:Int)=Q:=wrap_u64 (by omega)
 have w2:IntKind.u64.wrap (R:Int)=R:=wrap_u64 (by omega)
 have hdz:((B:Int)==0)=false:=by simp;omega
 have hdn:¬ B=0:=by omega
 have a7T:=fun w=>QF (n:=A) (d:=B) (v:=Q) (by omega) hA i1 w1 w
 have a7U:=fun w=>FP (n:=A) (d:=B) (v:=R) (by omega) hA i2 w2 w
 have HAB:=bn (And.intro hA' hB')
 clear hQ hR hA' hB'
 go_enter Tryz.func251,Tryz.ntmps251
 go_wp2_with fail
 refine(iW _ _ a b _ hs ht ha hb).mono ?_
 rw[HCV.out]
 rintro e w1 ⟨rfl,hb1⟩
 go_wp2_with fail
 refine(qF _ a _ (hs.below hb1) ha.1 ha2).mono ?_
 rw[HAB.out.1]
 rintro e w2 ⟨rfl,hb2'⟩
 go_wp2_with fail
 refine(qF _ b _ ((ht.below hb1).below hb2') hb.1 hb2).mono ?_
 rw[HAB.out.2]
 rintro e w3 ⟨rfl,hb3⟩
 have hB3:=(hb1.trans (hb2'.mono hb1.size)).trans (hb3.mono (iq hb1.size hb2'.size))
 have tk1:True:=trivial
 have hz3:=hB3.size
 go_wp2_with fail
 have S0:(fun _:World=>True) w3.drew:=trivial
 go_region_held3 (fun _:World=>True) (trivial)
  (first
   | (have:=tk1;clear tk1;go_at_call 247;(with_reducible refine(rF Q _ (by omega)).mono ?_);rintro e w4 ⟨v4,rfl,ho4,hb4⟩)
   | (go_at_call 247;(with_reducible refine(rF R _ (by omega)).mono ?_);rintro e w5 ⟨v5,rfl,ho5,hb5⟩))
 go_wp2_with fail
 go_ret2
 exact⟨_,_,rfl,(Rd.bU ho4).below hb5,Rd.bU ho5,(hB3.drew.trans (hb4.mono hz3)).trans (hb5.mono (iq hz3 hb4.size))⟩
theorem a9f (s t:Value) (a b:List Nat) (w:World) (hs:Rd w s a) (ht:Rd w t b) (ha:Canon a) (hb:Canon b) (la:a.length<=1000000000) (hb0:b≠[]) (hle:val b<=val a) (ha3:2<a.length) (UC:b.length=1) :
  Calls Tryz.prog 251 #[s,t] w (WI (dig (val a / val b)) (dig (val a%val b)) w):=by
 have hbp:=hb.pos hb0
 obtain⟨p,c,rfl,hc1,hc2⟩:=hs.form
 obtain⟨q,d,rfl,hd1,hd2⟩:=ht.form
 have hlen:b.length<=a.length:=by
  have:=aJ hle
  rwa [dN ha,dN hb] at this
 have hb1':1<=b.length:=oq.2 hb0
 have hc:0<=dF (val a) (val b):=by unfold dF;rw[jk (by omega)];split<;>omega
 obtain⟨cv,hcv⟩:∃ cv,dF (val a) (val b)=cv:=⟨_,rfl⟩
 rw[hcv] at hc
 have hdc:decide (cv<0)=false:=by simpa using hc
 have HCV:=bn hcv
 have HLE:=bn hle
 have HBP:=bn hbp
 clear hcv hle hbp hc
 obtain⟨d0,rfl⟩:∃ d0,b=[d0]:=by
  cases b with
  | nil=>simp at UC
  | cons x t=>cases t with
   | nil=>exact⟨x,rfl⟩
   | cons=>simp at UC
 have ht':Rd w (.slice q 1 d) [d0]:=ht
 show Calls Tryz.prog 251 #[.slice p a.length c,.slice q 1 d] w _
 obtain⟨gb,ob,rfl,hgb,hcb⟩:=ht'.at (by simp)
 have hc0:w.cell? ⟨gb,ob,none⟩=some (.int .u32 (d0:Nat)):=by simpa [gr] using hcb 0 (by simp)
 have b3Z:d0<=999999999:=by have:=hb.1 d0 (by simp);rw[bI] at this;omega
 have hvd:val [d0]=d0:=by simp[bP]
 have hd0:1<=d0:=by have:=HBP.out;rw[hvd] at this;exact this
 have hr0:val a%d0<d0:=wu _ hd0
 have HVD:=bn hvd
 clear hvd hcb UC
 go_enter Tryz.func251,Tryz.ntmps251
 go_wp2_with fail
 refine(iW _ _ a [d0] _ hs ht' ha hb).mono ?_
 rw[HCV.out]
 rintro e w1 ⟨rfl,hb1⟩
 go_wp2_with fail
 refine(xH _ a _ (hs.below hb1) ha3).mono ?_
 rintro e w2 ⟨rfl,hb2'⟩
 go_wp2_with fail
 refine(qF _ [d0] _ ((ht'.below hb1).below hb2') hb.1 (by simp)).mono ?_
 rintro e w3 ⟨rfl,hb3⟩
 have hB3:=(hb1.trans (hb2'.mono hb1.size)).trans (hb3.mono (iq hb1.size hb2'.size))
 have hc3:w3.cell? ⟨gb,ob,none⟩=some (.int .u32 (d0:Nat)):=(hB3.cell (p:=⟨gb,ob,none⟩) hgb).trans hc0
 have hs3:=hs.below hB3
 have hz3:=hB3.size
 go_wp2_with fail
 refine(short_any _ a d0 _ hs3 ha.1 hd0 b3Z (by omega)).mono ?_
 rintro e w4 ⟨v4,rfl,ho4,hb4⟩
 obtain⟨R,hR⟩:∃ R,val a%d0=R:=⟨_,rfl⟩
 rw[hR] at hr0 ⊢
 have HR:=bn hR
 clear hR
 go_wp2_with fail
 refine(rF R _ (by omega)).mono ?_
 rintro e w5 ⟨v5,rfl,ho5,hb5⟩
 go_wp2_with fail
 go_ret2
 exact⟨_,_,rfl,by rw[HVD.out];exact(Rd.bU ho4).below hb5,by rw[HVD.out,HR.out];exact Rd.bU ho5,(hB3.trans (hb4.mono hz3)).trans (hb5.mono (iq hz3 hb4.size))⟩
theorem a6a (s t:Value) (a b:List Nat) (w:World) (hs:Rd w s a) (ht:Rd w t b) (ha:Canon a) (hb:Canon b) (la:a.length<=1000000000) (hb0:b≠[]) (hle:val b<=val a) (ha3:2<a.length) (UC:b.length≠1) :
  Calls Tryz.prog 251 #[s,t] w (WI (dig (val a / val b)) (dig (val a%val b)) w):=by
 have hbp:=hb.pos hb0
 obtain⟨p,c,rfl,hc1,hc2⟩:=hs.form
 obtain⟨q,d,rfl,hd1,hd2⟩:=ht.form
 have hlen:b.length<=a.length:=by
  have:=aJ hle
  rwa [dN ha,dN hb] at this
 have hb1':1<=b.length:=oq.2 hb0
 have hc:0<=dF (val a) (val b):=by unfold dF;rw[jk (by omega)];split<;>omega
 obtain⟨cv,hcv⟩:∃ cv,dF (val a) (val b)=cv:=⟨_,rfl⟩
 rw[hcv] at hc
 have hdc:decide (cv<0)=false:=by simpa using hc
 have HCV:=bn hcv
 have HLE:=bn hle
 have HBP:=bn hbp
 clear hcv hle hbp hc
 have hb2:2<=b.length:=by omega
 have hne:((b.length:Int)==1)=false:=by simp;omega
 have hz:=fun(w3:World) (hB3:Below w.heap.size w w3)=>a8E _ _ a b w3 (hs.below hB3) (ht.below hB3) ha hb la hb2 HLE.out
 have HZ:=bn hz
 have HN1:=bn UC
 clear hz UC
 by_cases hb3:b.length<=2
 all_goals
  go_enter Tryz.func251,Tryz.ntmps251
  go_wp2_with fail
  refine(iW _ _ a b _ hs ht ha hb).mono ?_
  rw[HCV.out]
  rintro e w1 ⟨rfl,hb1⟩
  go_wp2_with fail
  refine(xH _ a _ (hs.below hb1) ha3).mono ?_
  rintro e w2 ⟨rfl,hb2'⟩
  go_wp2_with fail
  first
   |refine(qF _ b _ ((ht.below hb1).below hb2') hb.1 hb3).mono ?_
   |refine(xH _ b _ ((ht.below hb1).below hb2') (by omega)).mono ?_
  rintro e w3 ⟨rfl,c0H⟩
  have hB3:=(hb1.trans (hb2'.mono hb1.size)).trans (c0H.mono (iq hb1.size hb2'.size))
  go_wp2_with fail
  refine(HZ.out _ hB3).mono ?_
  rintro e w4 ⟨v1,v2,rfl,hv1,hv2,hb4⟩
  go_wp2_with fail
  go_ret2
  exact⟨_,_,rfl,hv1,hv2,hB3.trans (hb4.mono hB3.size)⟩
theorem pX (s t:Value) (a b:List Nat) (w:World) (hs:Rd w s a) (ht:Rd w t b) (ha:Canon a) (hb:Canon b) (la:a.length<=1000000000) (hb0:b≠[]) :
  Calls Tryz.prog 251 #[s,t] w (WI (dig (val a / val b)) (dig (val a%val b)) w):=by
 by_cases hlt:val a<val b
 ·exact b1U s t a b w hs ht ha hb la hb0 hlt
 ·by_cases ha2:a.length<=2
  ·exact a2s s t a b w hs ht ha hb la hb0 (by omega) ha2
  ·by_cases h1:b.length=1
   ·exact a9f s t a b w hs ht ha hb la hb0 (by omega) (by omega) h1
   ·exact a6a s t a b w hs ht ha hb la hb0 (by omega) (by omega) h1
def RV (q r:Int) (w:World) (e:Ending) (w':World):Prop:=∃ v1 v2,e=.returned (.tuple #[v1,v2,.int .i64 0])/\bW w' v1 q/\bW w' v2 r/\Below w.heap.size w w'
theorem oL {y:Int} (h:y≠0):dig y.natAbs≠[]:=fun e=>h (by have:=iO.1 e;omega)
theorem dG {w:World} {v:Value} {x y:Int} (h:bW w v x) (e:x=y):bW w v y:=e ▸ h
theorem a5y (v u:Value) (x y:Int) (w:World) (hv:Raw w v x) (hu:Raw w u y) (hl:isz x<=1000000000) (hl2:isz y<=1000000000) (hy:y≠0) (hr:x.natAbs%y.natAbs≠0) {b d:Bool} {p o:Option Addr} {n c m e:Nat} (ev:v=.agg #[.bool b,.slice p n c]) (eu:u=.agg #[.bool d,.slice o m e]) (hbd:(b != d)=false) :
  Calls Tryz.prog 229 #[v,u] w (RV (x.fdiv y) (x.fmod y) w):=by
 subst ev
 subst eu
 have hx1:=vS hv
 have hy1:=vS hu
 have hyp:0<y.natAbs:=by omega
 have HX:Hid (sg false (val (dig (val (dig x.natAbs) / val (dig y.natAbs))))=x.fdiv y/\sg d (val (dig (val (dig x.natAbs)%val (dig y.natAbs))))=x.fmod y):=by
  unfold Hid
  simp only[aH]
  obtain rfl:b=d:=by simpa using hbd
  have e1:=II b x.natAbs _ hyp
  rw[hx1,hy1] at e1
  rw[e1.1,e1.2]
  simp[sg]
 have hlx:(dig x.natAbs).length<=1000000000:=hl
 have hly:(dig y.natAbs).length<=1000000000:=hl2
 have hyn:=oL hy
 have hy0:0<(dig y.natAbs).length:=oq.2 hyn
 have a0K:Hid (val (dig (val (dig x.natAbs)%val (dig y.natAbs)))<=val (dig y.natAbs)):=by unfold Hid;simp only[aH];exact Dy (wu _ hyp)
 have hrl2:Hid ((dig (val (dig x.natAbs)%val (dig y.natAbs))).length<=(dig y.natAbs).length):=by unfold Hid;have:=aJ a0K.out;simpa only[aH] using this
 have hrl:Hid ((dig (val (dig x.natAbs)%val (dig y.natAbs))).length<=1000000000):=by have:=hrl2.out;unfold Hid;omega
 have hql:Hid ((dig (val (dig x.natAbs) / val (dig y.natAbs))).length<=1000000000):=by unfold Hid;simp only[aH];exact iq (aJ (Ad _ _)) hlx
 have hr0:0<(dig (val (dig x.natAbs)%val (dig y.natAbs))).length:=by simp only[aH];exact oq.2 (fun e=>hr (iO.1 e))
 skip
 skip
 skip
 have hbd2:(!b==d)=false:=by rw[<-hbd];cases b<;>cases d<;>rfl
 clear hy hr hx1 hy1 hyp hl hl2
 have aZ:Below w.heap.size w w:=bg _ _
 go_enter Tryz.func229,Tryz.ntmps229
 go_wp2_with fail
 obtain⟨hA1,i0,j0,n0,o0⟩:=bx4 w rfl [.bool b,.slice p n c] 45 [.bool d,.slice o m e] 45 [.bool false,.slice none 0 0] 45 [.bool false,.slice none 0 0] 45
 have vZ:=(aK.mk (i0.drew).bs2 (j0.drew).bs2)
 have tk1:True:=trivial
 have tk2:True:=trivial
 go_region_held3 (aK (BS2 w.heap.size (.bool b) (.slice p n c)) (BS2 (w.heap.size+1) (.bool d) (.slice o m e))) (first|with_reducible exact vZ|with_reducible exact fG.go (aK.hk BS2.hk BS2.hk) (by assumption) (by assumption)|(simp;done))
  (first
   | (((have:=tk1);clear tk1;have p0:=(hv.below hA1).drew;go_at_call 192;(with_reducible refine(dJ _ (x) _ p0).mono ?_);rintro e w1 ⟨s1,rfl,hs1,hb1⟩;obtain⟨p1,c1,rfl,SG,XZ⟩:=hs1.form))
   | (((have:=tk2);clear tk2;have iF:=((hu.below hA1).drew.below hb1);have q0:=iF;go_at_call 192;(with_reducible refine(dJ _ (y) _ q0).mono ?_);rintro e w2 ⟨s2,rfl,hs2,hb2⟩;obtain⟨p2,c2,rfl,b1g,b1j⟩:=hs2.form)))
 go_wp2_with fail
 have x0:=(hs1.below hb2)
 have r0:=x0
 have s0:=hs2
 (with_reducible refine(pX _ _ _ _ _ r0 s0 (aY _) (aY _) hlx hyn).mono ?_)
 rintro e w3 ⟨s3,t3,rfl,hs3,ht3,hb3⟩
 obtain⟨p3,c3,rfl,SH,SI⟩:=hs3.form
 obtain⟨o3,d3,rfl,hlo3,XY⟩:=ht3.form
 go_wp2_with fail
 have t0:=ht3
 (with_reducible refine(clone_any _ _ _ t0 (by have:=hrl.out;omega)).mono ?_)
 rintro e w4 ⟨s4,rfl,ho4,hb4⟩
 have hs4:=Rd.bU ho4
 obtain⟨p4,c4,rfl,a7P,a7S⟩:=hs4.form
 have kJ:=((((i0.drew.to hb1).to hb2).to hb3).to hb4)
 obtain⟨a1,b1⟩:=kJ.cs2
 have jJ:=((((j0.drew.to hb1).to hb2).to hb3).to hb4)
 obtain⟨d1,f1⟩:=jJ.cs2
 go_wp2_with fail
 have vO:=((((o0.drew.to hb1).to hb2).to hb3).to hb4)
 have GZ:=(aK.mk (kJ.drew).bs2 (aK.mk (jJ.drew).bs2 (BN.of (vO.drew))))
 have k0:dB (w.heap.size+1+1) (aK (BS2 w.heap.size (.bool b) (.slice p n c)) (aK (BS2 (w.heap.size+1) (.bool d) (.slice o m e)) (BN (w.heap.size+1+1+1)))):=(aK.hc (BS2.hc (by omega)) (aK.hc (BS2.hc (by omega)) BN.hc))
 have l0:dB (w.heap.size+1+1+1) (aK (BS2 w.heap.size (.bool b) (.slice p n c)) (aK (BS2 (w.heap.size+1) (.bool d) (.slice o m e)) (BN (w.heap.size+1+1+1)))):=(aK.hc (BS2.hc (by omega)) (aK.hc (BS2.hc (by omega)) BN.hc))
 have tk3:True:=trivial
 have tk4:True:=trivial
 go_region_held3 (aK (BS2 w.heap.size (.bool b) (.slice p n c)) (aK (BS2 (w.heap.size+1) (.bool d) (.slice o m e)) (BN (w.heap.size+1+1+1)))) (first|with_reducible exact GZ|with_reducible exact fG.go (aK.hk BS2.hk (aK.hk BS2.hk BN.hk)) (by assumption) (by assumption)|with_reducible exact dB.go2 k0 (by assumption)|with_reducible exact dB.go2 l0 (by assumption)|(simp;done))
  (first
   | (((have:=tk3);clear tk3;have y0:=(hs3.below hb4);have u0:=y0.drew;go_at_call 190;(with_reducible refine(gI _ _ _ _ u0 (bH _)).mono ?_);rintro e w5 ⟨v5,rfl,hi5,hb5⟩;obtain⟨g5,p5,n5,c5,rfl⟩:=hi5.form))
   | (((have:=tk4);clear tk4;have z0:=(hs4.drew.below hb5);have v0:=z0;go_at_call 190;(with_reducible refine(gI _ _ _ _ v0 (bH _)).mono ?_);rintro e w6 ⟨v6,rfl,hi6,hb6⟩;obtain⟨g6,p6,n6,c6,rfl⟩:=hi6.form;have qA:=((((((n0.drew.to hb1).to hb2).to hb3).to hb4).drew.to hb5).to hb6);obtain⟨a0,c0,b0,d0⟩:=qA.cf2;have sU:=((vO.drew.to hb5).to hb6);obtain⟨e0,g0,f0,h0⟩:=sU.cf2)))
 have w0:=(hi5.below hb6)
 have m0:=(Below.tr (Below.tr (Below.tr (Below.tr (Below.tr (Below.tr (Below.tr aZ hA1).drew hb1) hb2) hb3) hb4).drew hb5) hb6)
 go_wp2_with fail
 exact iw (v:=.tuple #[.agg #[.bool g5,.slice p5 n5 c5],.agg #[.bool g6,.slice p6 n6 c6],.int .i64 0]) (by simp[results,Tryz.results229,go_sem,a0,c0,b0,d0,e0,g0,f0,h0]) rfl ⟨_,_,rfl,dG ((w0.aG qA rfl rfl (.bool g5) (.slice p5 n5 c5)).aG (sU.aI (b:=w.heap.size+1+1) (by omega) (.bool g5) (.slice p5 n5 c5)) rfl rfl (.bool g6) (.slice p6 n6 c6)) HX.out.1,dG ((hi6.aG qA rfl rfl (.bool g5) (.slice p5 n5 c5)).aG (sU.aI (b:=w.heap.size+1+1) (by omega) (.bool g5) (.slice p5 n5 c5)) rfl rfl (.bool g6) (.slice p6 n6 c6)) HX.out.2,(Below.aG (Below.aG m0 (b:=w.heap.size+1+1) (by omega) (.bool g5) (.slice p5 n5 c5)) (b:=w.heap.size+1+1+1) (by omega) (.bool g6) (.slice p6 n6 c6))⟩
theorem a5w (v u:Value) (x y:Int) (w:World) (hv:Raw w v x) (hu:Raw w u y) (hl:isz x<=1000000000) (hl2:isz y<=1000000000) (hy:y≠0) (hr:x.natAbs%y.natAbs≠0) {b d:Bool} {p o:Option Addr} {n c m e:Nat} (ev:v=.agg #[.bool b,.slice p n c]) (eu:u=.agg #[.bool d,.slice o m e]) (hbd:(b != d)=true) :
  Calls Tryz.prog 229 #[v,u] w (RV (x.fdiv y) (x.fmod y) w):=by
 subst ev
 subst eu
 have hx1:=vS hv
 have hy1:=vS hu
 have hyp:0<y.natAbs:=by omega
 have HX:Hid (sg true (val (dig (val (dig (val (dig x.natAbs) / val (dig y.natAbs)))+val [1])))=x.fdiv y/\sg d (val (dig (val (dig y.natAbs)-val (dig (val (dig x.natAbs)%val (dig y.natAbs))))))=x.fmod y):=by
  unfold Hid
  simp only[aH]
  have e1:=TQ b d _ _ hyp hbd hr
  skip
  rw[hx1,hy1] at e1
  rw[e1.1,e1.2]
  simp[bP]
 have hlx:(dig x.natAbs).length<=1000000000:=hl
 have hly:(dig y.natAbs).length<=1000000000:=hl2
 have hyn:=oL hy
 have hy0:0<(dig y.natAbs).length:=oq.2 hyn
 have a0K:Hid (val (dig (val (dig x.natAbs)%val (dig y.natAbs)))<=val (dig y.natAbs)):=by unfold Hid;simp only[aH];exact Dy (wu _ hyp)
 have hrl2:Hid ((dig (val (dig x.natAbs)%val (dig y.natAbs))).length<=(dig y.natAbs).length):=by unfold Hid;have:=aJ a0K.out;simpa only[aH] using this
 have hrl:Hid ((dig (val (dig x.natAbs)%val (dig y.natAbs))).length<=1000000000):=by have:=hrl2.out;unfold Hid;omega
 have hql:Hid ((dig (val (dig x.natAbs) / val (dig y.natAbs))).length<=1000000000):=by unfold Hid;simp only[aH];exact iq (aJ (Ad _ _)) hlx
 have hr0:0<(dig (val (dig x.natAbs)%val (dig y.natAbs))).length:=by simp only[aH];exact oq.2 (fun e=>hr (iO.1 e))
 skip
 skip
 skip
 have hbd2:(!b==d)=true:=by rw[<-hbd];cases b<;>cases d<;>rfl
 clear hy hr hx1 hy1 hyp hl hl2
 have aZ:Below w.heap.size w w:=bg _ _
 go_enter Tryz.func229,Tryz.ntmps229
 go_wp2_with fail
 obtain⟨hA1,m0,n0,r0,s0⟩:=bx4 w rfl [.bool b,.slice p n c] 45 [.bool d,.slice o m e] 45 [.bool false,.slice none 0 0] 45 [.bool false,.slice none 0 0] 45
 have vZ:=(aK.mk (m0.drew).bs2 (n0.drew).bs2)
 have tk1:True:=trivial
 have tk2:True:=trivial
 go_region_held3 (aK (BS2 w.heap.size (.bool b) (.slice p n c)) (BS2 (w.heap.size+1) (.bool d) (.slice o m e))) (first|with_reducible exact vZ|with_reducible exact fG.go (aK.hk BS2.hk BS2.hk) (by assumption) (by assumption)|(simp;done))
  (first
   | (((have:=tk1);clear tk1;have t0:=(hv.below hA1).drew;go_at_call 192;(with_reducible refine(dJ _ (x) _ t0).mono ?_);rintro e w1 ⟨s1,rfl,hs1,hb1⟩;obtain⟨p1,c1,rfl,SG,XZ⟩:=hs1.form))
   | (((have:=tk2);clear tk2;have iF:=((hu.below hA1).drew.below hb1);have u0:=iF;go_at_call 192;(with_reducible refine(dJ _ (y) _ u0).mono ?_);rintro e w2 ⟨s2,rfl,hs2,hb2⟩;obtain⟨p2,c2,rfl,b1g,b1j⟩:=hs2.form)))
 go_wp2_with fail
 have h1:=(hs1.below hb2)
 have v0:=h1
 have w0:=hs2
 (with_reducible refine(pX _ _ _ _ _ v0 w0 (aY _) (aY _) hlx hyn).mono ?_)
 rintro e w3 ⟨s3,t3,rfl,hs3,ht3,hb3⟩
 obtain⟨p3,c3,rfl,SH,SI⟩:=hs3.form
 obtain⟨o3,d3,rfl,hlo3,XY⟩:=ht3.form
 go_wp2_with fail
 have x0:=ht3
 (with_reducible refine(clone_any _ _ _ x0 (by have:=hrl.out;omega)).mono ?_)
 rintro e w4 ⟨s4,rfl,ho4,hb4⟩
 have hs4:=Rd.bU ho4
 obtain⟨p4,c4,rfl,a7P,a7S⟩:=hs4.form
 have kJ:=((((m0.drew.to hb1).to hb2).to hb3).to hb4)
 obtain⟨o1,q1⟩:=kJ.cs2
 have jJ:=((((n0.drew.to hb1).to hb2).to hb3).to hb4)
 obtain⟨r1,t1⟩:=jJ.cs2
 have i0:=(kJ).1
 have j0:=(jJ).1
 have kV:=((((r0.drew.to hb1).to hb2).to hb3).to hb4)
 have k0:=(kV).1
 have vO:=((((s0.drew.to hb1).to hb2).to hb3).to hb4)
 have l0:=(vO).1
 have n1:Rd (w4.alloc (.cells #[.int .u32 1] 148)) (.slice (some ⟨w4.heap.size,0,none⟩) 1 1) [1]:=(by simpa using YR w4 1)
 go_wp2_with fail
 have j1:=(hs3.below hb4)
 obtain⟨hA2,u1⟩:=bx1 w4 rfl [.int .u32 1] 148
 have y0:=(j1.below hA2)
 have z0:=n1
 (with_reducible refine(QE _ _ _ _ _ y0 z0 (bH _) (Low.cons.2 ⟨a6G,Low.nil⟩) (by have:=hql.out;omega) (by simp)).mono ?_)
 rintro e w5 ⟨s5,rfl,ho5,hb5⟩
 have hs5:=Rd.bU ho5
 obtain⟨p5,c5,rfl,c1p,c1r⟩:=hs5.form
 go_wp2_with fail
 have i1:=((((hs2.below hb3).below hb4).below hA2).below hb5)
 have a1:=i1
 have k1:=((hs4.below hA2).below hb5)
 have b1:=k1
 (with_reducible refine(JF _ _ _ _ _ a1 b1 (bH _) (bH _) (by omega) (by have:=hrl2.out;omega) (by have:=a0K.out;omega)).mono ?_)
 rintro e w6 ⟨s6,rfl,ho6,hb6⟩
 have hs6:=Rd.bU ho6
 obtain⟨p6,c6,rfl,c1q,c1s⟩:=hs6.form
 go_wp2_with fail
 have a9m:=(((kJ.to hA2).to hb5).to hb6)
 have a2y:=(((jJ.to hA2).to hb5).to hb6)
 have sU:=(((vO.to hA2).to hb5).to hb6)
 have GZ:=(aK.mk (a9m.drew).bs2 (aK.mk (a2y.drew).bs2 (BN.of (sU.drew))))
 have o0:dB (w.heap.size+1+1) (aK (BS2 w.heap.size (.bool b) (.slice p n c)) (aK (BS2 (w.heap.size+1) (.bool d) (.slice o m e)) (BN (w.heap.size+1+1+1)))):=(aK.hc (BS2.hc (by omega)) (aK.hc (BS2.hc (by omega)) BN.hc))
 have p0:dB (w.heap.size+1+1+1) (aK (BS2 w.heap.size (.bool b) (.slice p n c)) (aK (BS2 (w.heap.size+1) (.bool d) (.slice o m e)) (BN (w.heap.size+1+1+1)))):=(aK.hc (BS2.hc (by omega)) (aK.hc (BS2.hc (by omega)) BN.hc))
 have tk3:True:=trivial
 have tk4:True:=trivial
 go_region_held3 (aK (BS2 w.heap.size (.bool b) (.slice p n c)) (aK (BS2 (w.heap.size+1) (.bool d) (.slice o m e)) (BN (w.heap.size+1+1+1)))) (first|with_reducible exact GZ|with_reducible exact fG.go (aK.hk BS2.hk (aK.hk BS2.hk BN.hk)) (by assumption) (by assumption)|with_reducible exact dB.go2 o0 (by assumption)|with_reducible exact dB.go2 p0 (by assumption)|(simp;done))
  (first
   | (((have:=tk3);clear tk3;have l1:=(hs5.below hb6);have d1:=l1.drew;go_at_call 190;(with_reducible refine(gI _ _ _ _ d1 (bH _)).mono ?_);rintro e w7 ⟨v7,rfl,hi7,hb7⟩;obtain⟨g7,p7,n7,c7,rfl⟩:=hi7.form))
   | (((have:=tk4);clear tk4;have m1:=(hs6.drew.below hb7);have f1:=m1;go_at_call 190;(with_reducible refine(gI _ _ _ _ f1 (bH _)).mono ?_);rintro e w8 ⟨v8,rfl,hi8,hb8⟩;obtain⟨g8,p8,n8,c8,rfl⟩:=hi8.form;have a2z:=(((((kV.to hA2).to hb5).to hb6).drew.to hb7).to hb8);obtain⟨a0,c0,b0,d0⟩:=a2z.cf2;have a2A:=((sU.drew.to hb7).to hb8);obtain⟨e0,g0,f0,h0⟩:=a2A.cf2)))
 have g1:=(hi7.below hb8)
 have q0:=(Below.tr (Below.tr (Below.tr (Below.tr (Below.tr (Below.tr (Below.tr (Below.tr (Below.tr (Below.tr aZ hA1).drew hb1) hb2) hb3) hb4) hA2) hb5) hb6).drew hb7) hb8)
 go_wp2_with fail
 exact iw (v:=.tuple #[.agg #[.bool g7,.slice p7 n7 c7],.agg #[.bool g8,.slice p8 n8 c8],.int .i64 0]) (by simp[results,Tryz.results229,go_sem,i0,j0,k0,l0,a0,c0,b0,d0,e0,g0,f0,h0]) rfl ⟨_,_,rfl,dG ((g1.aG a2z rfl rfl (.bool g7) (.slice p7 n7 c7)).aG (a2A.aI (b:=w.heap.size+1+1) (by omega) (.bool g7) (.slice p7 n7 c7)) rfl rfl (.bool g8) (.slice p8 n8 c8)) HX.out.1,dG ((hi8.aG a2z rfl rfl (.bool g7) (.slice p7 n7 c7)).aG (a2A.aI (b:=w.heap.size+1+1) (by omega) (.bool g7) (.slice p7 n7 c7)) rfl rfl (.bool g8) (.slice p8 n8 c8)) HX.out.2,(Below.aG (Below.aG q0 (b:=w.heap.size+1+1) (by omega) (.bool g7) (.slice p7 n7 c7)) (b:=w.heap.size+1+1+1) (by omega) (.bool g8) (.slice p8 n8 c8))⟩
theorem a5x (v u:Value) (x y:Int) (w:World) (hv:Raw w v x) (hu:Raw w u y) (hl:isz x<=1000000000) (hl2:isz y<=1000000000) (hy:y≠0) (hr:x.natAbs%y.natAbs=0) {b d:Bool} {p o:Option Addr} {n c m e:Nat} (ev:v=.agg #[.bool b,.slice p n c]) (eu:u=.agg #[.bool d,.slice o m e]) (hbd:(b != d)=false) :
  Calls Tryz.prog 229 #[v,u] w (RV (x.fdiv y) (x.fmod y) w):=by
 subst ev
 subst eu
 have hx1:=vS hv
 have hy1:=vS hu
 have hyp:0<y.natAbs:=by omega
 have HX:Hid (sg false (val (dig (val (dig x.natAbs) / val (dig y.natAbs))))=x.fdiv y/\sg d (val (dig (val (dig x.natAbs)%val (dig y.natAbs))))=x.fmod y):=by
  unfold Hid
  simp only[aH]
  obtain rfl:b=d:=by simpa using hbd
  have e1:=II b x.natAbs _ hyp
  rw[hx1,hy1] at e1
  rw[e1.1,e1.2]
  simp[sg]
 have hlx:(dig x.natAbs).length<=1000000000:=hl
 have hly:(dig y.natAbs).length<=1000000000:=hl2
 have hyn:=oL hy
 have hy0:0<(dig y.natAbs).length:=oq.2 hyn
 have a0K:Hid (val (dig (val (dig x.natAbs)%val (dig y.natAbs)))<=val (dig y.natAbs)):=by unfold Hid;simp only[aH];exact Dy (wu _ hyp)
 have hrl2:Hid ((dig (val (dig x.natAbs)%val (dig y.natAbs))).length<=(dig y.natAbs).length):=by unfold Hid;have:=aJ a0K.out;simpa only[aH] using this
 have hrl:Hid ((dig (val (dig x.natAbs)%val (dig y.natAbs))).length<=1000000000):=by have:=hrl2.out;unfold Hid;omega
 have hql:Hid ((dig (val (dig x.natAbs) / val (dig y.natAbs))).length<=1000000000):=by unfold Hid;simp only[aH];exact iq (aJ (Ad _ _)) hlx
 have OM:(dig (val (dig x.natAbs)%val (dig y.natAbs))).length=0:=by simp only[aH];rw[hr,dL];rfl
 have hr1:decide (0<(dig (val (dig x.natAbs)%val (dig y.natAbs))).length)=false:=by simp only[OM];rfl
 have hr2:decide ((0:Int)<((dig (val (dig x.natAbs)%val (dig y.natAbs))).length:Int))=false:=by simp only[OM];rfl
 clear OM
 have hbd2:(!b==d)=false:=by rw[<-hbd];cases b<;>cases d<;>rfl
 clear hy hr hx1 hy1 hyp hl hl2
 have aZ:Below w.heap.size w w:=bg _ _
 go_enter Tryz.func229,Tryz.ntmps229
 go_wp2_with fail
 obtain⟨hA1,i0,j0,n0,o0⟩:=bx4 w rfl [.bool b,.slice p n c] 45 [.bool d,.slice o m e] 45 [.bool false,.slice none 0 0] 45 [.bool false,.slice none 0 0] 45
 have vZ:=(aK.mk (i0.drew).bs2 (j0.drew).bs2)
 have tk1:True:=trivial
 have tk2:True:=trivial
 go_region_held3 (aK (BS2 w.heap.size (.bool b) (.slice p n c)) (BS2 (w.heap.size+1) (.bool d) (.slice o m e))) (first|with_reducible exact vZ|with_reducible exact fG.go (aK.hk BS2.hk BS2.hk) (by assumption) (by assumption)|(simp;done))
  (first
   | (((have:=tk1);clear tk1;have p0:=(hv.below hA1).drew;go_at_call 192;(with_reducible refine(dJ _ (x) _ p0).mono ?_);rintro e w1 ⟨s1,rfl,hs1,hb1⟩;obtain⟨p1,c1,rfl,SG,XZ⟩:=hs1.form))
   | (((have:=tk2);clear tk2;have iF:=((hu.below hA1).drew.below hb1);have q0:=iF;go_at_call 192;(with_reducible refine(dJ _ (y) _ q0).mono ?_);rintro e w2 ⟨s2,rfl,hs2,hb2⟩;obtain⟨p2,c2,rfl,b1g,b1j⟩:=hs2.form)))
 go_wp2_with fail
 have x0:=(hs1.below hb2)
 have r0:=x0
 have s0:=hs2
 (with_reducible refine(pX _ _ _ _ _ r0 s0 (aY _) (aY _) hlx hyn).mono ?_)
 rintro e w3 ⟨s3,t3,rfl,hs3,ht3,hb3⟩
 obtain⟨p3,c3,rfl,SH,SI⟩:=hs3.form
 obtain⟨o3,d3,rfl,hlo3,XY⟩:=ht3.form
 go_wp2_with fail
 have t0:=ht3
 (with_reducible refine(clone_any _ _ _ t0 (by have:=hrl.out;omega)).mono ?_)
 rintro e w4 ⟨s4,rfl,ho4,hb4⟩
 have hs4:=Rd.bU ho4
 obtain⟨p4,c4,rfl,a7P,a7S⟩:=hs4.form
 go_wp2_with fail
 have kJ:=((((i0.drew.to hb1).to hb2).to hb3).to hb4)
 have jJ:=((((j0.drew.to hb1).to hb2).to hb3).to hb4)
 have vO:=((((o0.drew.to hb1).to hb2).to hb3).to hb4)
 have GZ:=(aK.mk (kJ.drew).bs2 (aK.mk (jJ.drew).bs2 (BN.of (vO.drew))))
 have k0:dB (w.heap.size+1+1) (aK (BS2 w.heap.size (.bool b) (.slice p n c)) (aK (BS2 (w.heap.size+1) (.bool d) (.slice o m e)) (BN (w.heap.size+1+1+1)))):=(aK.hc (BS2.hc (by omega)) (aK.hc (BS2.hc (by omega)) BN.hc))
 have l0:dB (w.heap.size+1+1+1) (aK (BS2 w.heap.size (.bool b) (.slice p n c)) (aK (BS2 (w.heap.size+1) (.bool d) (.slice o m e)) (BN (w.heap.size+1+1+1)))):=(aK.hc (BS2.hc (by omega)) (aK.hc (BS2.hc (by omega)) BN.hc))
 have tk3:True:=trivial
 have tk4:True:=trivial
 go_region_held3 (aK (BS2 w.heap.size (.bool b) (.slice p n c)) (aK (BS2 (w.heap.size+1) (.bool d) (.slice o m e)) (BN (w.heap.size+1+1+1)))) (first|with_reducible exact GZ|with_reducible exact fG.go (aK.hk BS2.hk (aK.hk BS2.hk BN.hk)) (by assumption) (by assumption)|with_reducible exact dB.go2 k0 (by assumption)|with_reducible exact dB.go2 l0 (by assumption)|(simp;done))
  (first
   | (((have:=tk3);clear tk3;have y0:=(hs3.below hb4);have u0:=y0.drew;go_at_call 190;(with_reducible refine(gI _ _ _ _ u0 (bH _)).mono ?_);rintro e w5 ⟨v5,rfl,hi5,hb5⟩;obtain⟨g5,p5,n5,c5,rfl⟩:=hi5.form))
   | (((have:=tk4);clear tk4;have z0:=(hs4.drew.below hb5);have v0:=z0;go_at_call 190;(with_reducible refine(gI _ _ _ _ v0 (bH _)).mono ?_);rintro e w6 ⟨v6,rfl,hi6,hb6⟩;obtain⟨g6,p6,n6,c6,rfl⟩:=hi6.form;have qA:=((((((n0.drew.to hb1).to hb2).to hb3).to hb4).drew.to hb5).to hb6);obtain⟨a0,c0,b0,d0⟩:=qA.cf2;have sU:=((vO.drew.to hb5).to hb6);obtain⟨e0,g0,f0,h0⟩:=sU.cf2)))
 have w0:=(hi5.below hb6)
 have m0:=(Below.tr (Below.tr (Below.tr (Below.tr (Below.tr (Below.tr (Below.tr aZ hA1).drew hb1) hb2) hb3) hb4).drew hb5) hb6)
 go_wp2_with fail
 exact iw (v:=.tuple #[.agg #[.bool g5,.slice p5 n5 c5],.agg #[.bool g6,.slice p6 n6 c6],.int .i64 0]) (by simp[results,Tryz.results229,go_sem,a0,c0,b0,d0,e0,g0,f0,h0]) rfl ⟨_,_,rfl,dG ((w0.aG qA rfl rfl (.bool g5) (.slice p5 n5 c5)).aG (sU.aI (b:=w.heap.size+1+1) (by omega) (.bool g5) (.slice p5 n5 c5)) rfl rfl (.bool g6) (.slice p6 n6 c6)) HX.out.1,dG ((hi6.aG qA rfl rfl (.bool g5) (.slice p5 n5 c5)).aG (sU.aI (b:=w.heap.size+1+1) (by omega) (.bool g5) (.slice p5 n5 c5)) rfl rfl (.bool g6) (.slice p6 n6 c6)) HX.out.2,(Below.aG (Below.aG m0 (b:=w.heap.size+1+1) (by omega) (.bool g5) (.slice p5 n5 c5)) (b:=w.heap.size+1+1+1) (by omega) (.bool g6) (.slice p6 n6 c6))⟩
theorem a5v (v u:Value) (x y:Int) (w:World) (hv:Raw w v x) (hu:Raw w u y) (hl:isz x<=1000000000) (hl2:isz y<=1000000000) (hy:y≠0) (hr:x.natAbs%y.natAbs=0) {b d:Bool} {p o:Option Addr} {n c m e:Nat} (ev:v=.agg #[.bool b,.slice p n c]) (eu:u=.agg #[.bool d,.slice o m e]) (hbd:(b != d)=true) :
  Calls Tryz.prog 229 #[v,u] w (RV (x.fdiv y) (x.fmod y) w):=by
 subst ev
 subst eu
 have hx1:=vS hv
 have hy1:=vS hu
 have hyp:0<y.natAbs:=by omega
 have HX:Hid (sg true (val (dig (val (dig x.natAbs) / val (dig y.natAbs))))=x.fdiv y/\sg d (val (dig (val (dig x.natAbs)%val (dig y.natAbs))))=x.fmod y):=by
  unfold Hid
  simp only[aH]
  have e1:=NZ b d _ _ hyp hbd hr
  skip
  rw[hx1,hy1] at e1
  rw[e1.1,e1.2]
  simp[sg,hr]
 have hlx:(dig x.natAbs).length<=1000000000:=hl
 have hly:(dig y.natAbs).length<=1000000000:=hl2
 have hyn:=oL hy
 have hy0:0<(dig y.natAbs).length:=oq.2 hyn
 have a0K:Hid (val (dig (val (dig x.natAbs)%val (dig y.natAbs)))<=val (dig y.natAbs)):=by unfold Hid;simp only[aH];exact Dy (wu _ hyp)
 have hrl2:Hid ((dig (val (dig x.natAbs)%val (dig y.natAbs))).length<=(dig y.natAbs).length):=by unfold Hid;have:=aJ a0K.out;simpa only[aH] using this
 have hrl:Hid ((dig (val (dig x.natAbs)%val (dig y.natAbs))).length<=1000000000):=by have:=hrl2.out;unfold Hid;omega
 have hql:Hid ((dig (val (dig x.natAbs) / val (dig y.natAbs))).length<=1000000000):=by unfold Hid;simp only[aH];exact iq (aJ (Ad _ _)) hlx
 have OM:(dig (val (dig x.natAbs)%val (dig y.natAbs))).length=0:=by simp only[aH];rw[hr,dL];rfl
 have hr1:decide (0<(dig (val (dig x.natAbs)%val (dig y.natAbs))).length)=false:=by simp only[OM];rfl
 have hr2:decide ((0:Int)<((dig (val (dig x.natAbs)%val (dig y.natAbs))).length:Int))=false:=by simp only[OM];rfl
 clear OM
 have hbd2:(!b==d)=true:=by rw[<-hbd];cases b<;>cases d<;>rfl
 clear hy hr hx1 hy1 hyp hl hl2
 have aZ:Below w.heap.size w w:=bg _ _
 go_enter Tryz.func229,Tryz.ntmps229
 go_wp2_with fail
 obtain⟨hA1,i0,j0,n0,o0⟩:=bx4 w rfl [.bool b,.slice p n c] 45 [.bool d,.slice o m e] 45 [.bool false,.slice none 0 0] 45 [.bool false,.slice none 0 0] 45
 have vZ:=(aK.mk (i0.drew).bs2 (j0.drew).bs2)
 have tk1:True:=trivial
 have tk2:True:=trivial
 go_region_held3 (aK (BS2 w.heap.size (.bool b) (.slice p n c)) (BS2 (w.heap.size+1) (.bool d) (.slice o m e))) (first|with_reducible exact vZ|with_reducible exact fG.go (aK.hk BS2.hk BS2.hk) (by assumption) (by assumption)|(simp;done))
  (first
   | (((have:=tk1);clear tk1;have p0:=(hv.below hA1).drew;go_at_call 192;(with_reducible refine(dJ _ (x) _ p0).mono ?_);rintro e w1 ⟨s1,rfl,hs1,hb1⟩;obtain⟨p1,c1,rfl,SG,XZ⟩:=hs1.form))
   | (((have:=tk2);clear tk2;have iF:=((hu.below hA1).drew.below hb1);have q0:=iF;go_at_call 192;(with_reducible refine(dJ _ (y) _ q0).mono ?_);rintro e w2 ⟨s2,rfl,hs2,hb2⟩;obtain⟨p2,c2,rfl,b1g,b1j⟩:=hs2.form)))
 go_wp2_with fail
 have x0:=(hs1.below hb2)
 have r0:=x0
 have s0:=hs2
 (with_reducible refine(pX _ _ _ _ _ r0 s0 (aY _) (aY _) hlx hyn).mono ?_)
 rintro e w3 ⟨s3,t3,rfl,hs3,ht3,hb3⟩
 obtain⟨p3,c3,rfl,SH,SI⟩:=hs3.form
 obtain⟨o3,d3,rfl,hlo3,XY⟩:=ht3.form
 go_wp2_with fail
 have t0:=ht3
 (with_reducible refine(clone_any _ _ _ t0 (by have:=hrl.out;omega)).mono ?_)
 rintro e w4 ⟨s4,rfl,ho4,hb4⟩
 have hs4:=Rd.bU ho4
 obtain⟨p4,c4,rfl,a7P,a7S⟩:=hs4.form
 go_wp2_with fail
 have kJ:=((((i0.drew.to hb1).to hb2).to hb3).to hb4)
 have jJ:=((((j0.drew.to hb1).to hb2).to hb3).to hb4)
 have vO:=((((o0.drew.to hb1).to hb2).to hb3).to hb4)
 have GZ:=(aK.mk (kJ.drew).bs2 (aK.mk (jJ.drew).bs2 (BN.of (vO.drew))))
 have k0:dB (w.heap.size+1+1) (aK (BS2 w.heap.size (.bool b) (.slice p n c)) (aK (BS2 (w.heap.size+1) (.bool d) (.slice o m e)) (BN (w.heap.size+1+1+1)))):=(aK.hc (BS2.hc (by omega)) (aK.hc (BS2.hc (by omega)) BN.hc))
 have l0:dB (w.heap.size+1+1+1) (aK (BS2 w.heap.size (.bool b) (.slice p n c)) (aK (BS2 (w.heap.size+1) (.bool d) (.slice o m e)) (BN (w.heap.size+1+1+1)))):=(aK.hc (BS2.hc (by omega)) (aK.hc (BS2.hc (by omega)) BN.hc))
 have tk3:True:=trivial
 have tk4:True:=trivial
 go_region_held3 (aK (BS2 w.heap.size (.bool b) (.slice p n c)) (aK (BS2 (w.heap.size+1) (.bool d) (.slice o m e)) (BN (w.heap.size+1+1+1)))) (first|with_reducible exact GZ|with_reducible exact fG.go (aK.hk BS2.hk (aK.hk BS2.hk BN.hk)) (by assumption) (by assumption)|with_reducible exact dB.go2 k0 (by assumption)|with_reducible exact dB.go2 l0 (by assumption)|(simp;done))
  (first
   | (((have:=tk3);clear tk3;have y0:=(hs3.below hb4);have u0:=y0.drew;go_at_call 190;(with_reducible refine(gI _ _ _ _ u0 (bH _)).mono ?_);rintro e w5 ⟨v5,rfl,hi5,hb5⟩;obtain⟨g5,p5,n5,c5,rfl⟩:=hi5.form))
   | (((have:=tk4);clear tk4;have z0:=(hs4.drew.below hb5);have v0:=z0;go_at_call 190;(with_reducible refine(gI _ _ _ _ v0 (bH _)).mono ?_);rintro e w6 ⟨v6,rfl,hi6,hb6⟩;obtain⟨g6,p6,n6,c6,rfl⟩:=hi6.form;have qA:=((((((n0.drew.to hb1).to hb2).to hb3).to hb4).drew.to hb5).to hb6);obtain⟨a0,c0,b0,d0⟩:=qA.cf2;have sU:=((vO.drew.to hb5).to hb6);obtain⟨e0,g0,f0,h0⟩:=sU.cf2)))
 have w0:=(hi5.below hb6)
 have m0:=(Below.tr (Below.tr (Below.tr (Below.tr (Below.tr (Below.tr (Below.tr aZ hA1).drew hb1) hb2) hb3) hb4).drew hb5) hb6)
 go_wp2_with fail
 exact iw (v:=.tuple #[.agg #[.bool g5,.slice p5 n5 c5],.agg #[.bool g6,.slice p6 n6 c6],.int .i64 0]) (by simp[results,Tryz.results229,go_sem,a0,c0,b0,d0,e0,g0,f0,h0]) rfl ⟨_,_,rfl,dG ((w0.aG qA rfl rfl (.bool g5) (.slice p5 n5 c5)).aG (sU.aI (b:=w.heap.size+1+1) (by omega) (.bool g5) (.slice p5 n5 c5)) rfl rfl (.bool g6) (.slice p6 n6 c6)) HX.out.1,dG ((hi6.aG qA rfl rfl (.bool g5) (.slice p5 n5 c5)).aG (sU.aI (b:=w.heap.size+1+1) (by omega) (.bool g5) (.slice p5 n5 c5)) rfl rfl (.bool g6) (.slice p6 n6 c6)) HX.out.2,(Below.aG (Below.aG m0 (b:=w.heap.size+1+1) (by omega) (.bool g5) (.slice p5 n5 c5)) (b:=w.heap.size+1+1+1) (by omega) (.bool g6) (.slice p6 n6 c6))⟩
theorem rP (v u:Value) (x y:Int) (w:World) (hv:Raw w v x) (hu:Raw w u y) (hl:isz x<=1000000000) (hl2:isz y<=1000000000) (hy:y≠0) :
  Calls Tryz.prog 229 #[v,u] w (RV (x.fdiv y) (x.fmod y) w):=by
 obtain⟨b,p,n,c,ev⟩:=hv.form
 obtain⟨d,o,m,e,eu⟩:=hu.form
 by_cases hr:x.natAbs%y.natAbs=0
 ·cases hbd:(b != d)
  ·exact a5x v u x y w hv hu hl hl2 hy hr ev eu hbd
  ·exact a5v v u x y w hv hu hl hl2 hy hr ev eu hbd
 ·cases hbd:(b != d)
  ·exact a5y v u x y w hv hu hl hl2 hy hr ev eu hbd
  ·exact a5w v u x y w hv hu hl hl2 hy hr ev eu hbd
end Go.Proofs.YtbkocjmmbkifjaaGreat
