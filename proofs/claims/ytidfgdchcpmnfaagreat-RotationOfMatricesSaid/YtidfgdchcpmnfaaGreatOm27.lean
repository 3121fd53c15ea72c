/-
  Lemmas for the theorem vofmatrices_holds, part 27 of 32.
-/
import Derived.Test.YtidfgdchcpmnfaaGreatOm06
import Derived.Test.YtidfgdchcpmnfaaGreatOm10
import Derived.Test.YtidfgdchcpmnfaaGreatOm23
import Derived.Test.YtidfgdchcpmnfaaGreatOm26
namespace Go.Proofs.YtidfgdchcpmnfaaGreat
open Go.RowKit
set_option maxRecDepth 100000
set_option maxHeartbeats 4000000
set_option linter.unusedSimpArgs false
set_option linter.unusedVariables false
theorem tK {x y:Int} (h:y ∣ x):x.fdiv y=x / y:=by
 rw[Int.fdiv_eq_ediv,if_pos (.inr h),Int.sub_zero]
theorem a5X {n d:Int} (hd:0<d):n.fdiv ((Int.gcd n d:Nat):Int)=(Rat.divInt n d).num/\d.fdiv ((Int.gcd n d:Nat):Int)=(Rat.divInt n d).den:=by
 rw[nJ hd,nI hd]
 exact⟨tK (Int.gcd_dvd_left _ _),tK (Int.gcd_dvd_right _ _)⟩
theorem a5W {n d:Int} (hd:d<0):n.fdiv (-((Int.gcd n d:Nat):Int))=(Rat.divInt n d).num/\d.fdiv (-((Int.gcd n d:Nat):Int))=(Rat.divInt n d).den:=by
 rw[NR hd,NP hd]
 exact⟨tK (Int.neg_dvd.2 (Int.gcd_dvd_left _ _)),tK (Int.neg_dvd.2 (Int.gcd_dvd_right _ _))⟩
theorem sO (k:Int) (w:World) (h0:-9223372036854775808<=k) (h1:k<=9223372036854775807) :
  Calls Tryz.prog 98 #[.int .i64 k] w (kP k w):=by
 have aY:Below w.heap.size w w:=Below.refl _ _
 go_enter Tryz.func98,Tryz.ntmps98
 go_wp2_with fail
 (with_reducible refine(qW _ _ (by omega) (by omega)).mono ?_)
 rintro e w1 ⟨v1,rfl,hi1,hb1⟩
 obtain⟨g1,p1,n1,c1,rfl⟩:=hi1.form
 obtain⟨hA1,f0⟩:=bx1 w rfl [.bool false,.slice none 0 0] 28
 have bF:=(f0.to hb1)
 obtain⟨a0,c0,b0,d0⟩:=bF.cf2
 have e0:=(Below.tr (Below.tr aY hA1) hb1)
 go_wp2_with fail
 exact bodyPost_ret (v:=.agg #[.bool g1,.slice p1 n1 c1]) (by simp[results,Tryz.results98,go_sem,a0,c0,b0,d0]) rfl ⟨_,rfl,(hi1.aF bF rfl rfl (.bool g1) (.slice p1 n1 c1)),(Below.aF e0 (b:=w.heap.size) (by omega) (.bool g1) (.slice p1 n1 c1))⟩
theorem KH (k:Int) (w:World) (h0:-9223372036854775808<=k) (h1:k<=9223372036854775807) :
  Calls Tryz.prog 79 #[.int .i64 k] w (GQ (k:Rat) w):=by
 have aY:Below w.heap.size w w:=Below.refl _ _
 go_enter Tryz.func79,Tryz.ntmps79
 go_wp2_with fail
 (with_reducible refine(sO _ _ (by omega) (by omega)).mono ?_)
 rintro e w1 ⟨v1,rfl,hi1,hb1⟩
 obtain⟨g1,p1,n1,c1,rfl⟩:=hi1.form
 go_wp2_with fail
 (with_reducible refine(sO _ _ (by omega) (by omega)).mono ?_)
 rintro e w2 ⟨v2,rfl,hi2,hb2⟩
 obtain⟨g2,p2,n2,c2,rfl⟩:=hi2.form
 obtain⟨hA1,k0⟩:=bx1 w rfl [.bool false,.slice none 0 0,.bool false,.slice none 0 0] 30
 have bV:=((k0.to hb1).to hb2)
 obtain⟨a0,e0,b0,f0,c0,g0,d0,i0⟩:=bV.cf4
 have l0:=(hi1.below hb2)
 have j0:=(Below.tr (Below.tr (Below.tr aY hA1) hb1) hb2)
 go_wp2_with fail
 exact bodyPost_ret (v:=.agg #[.bool g1,.slice p1 n1 c1,.bool g2,.slice p2 n2 c2]) (by simp[results,Tryz.results79,go_sem,a0,e0,b0,f0,c0,g0,d0,i0]) rfl ⟨_,rfl,RQ.mk' (l0.aT bV rfl rfl rfl rfl (.bool g1) (.slice p1 n1 c1) (.bool g2) (.slice p2 n2 c2)) (hi2.aT bV rfl rfl rfl rfl (.bool g1) (.slice p1 n1 c1) (.bool g2) (.slice p2 n2 c2)) (a4c k).symm (by rw[a4b];rfl),(Below.aT j0 (b:=w.heap.size) (by omega) (.bool g1) (.slice p1 n1 c1) (.bool g2) (.slice p2 n2 c2))⟩
theorem JB (k:Int) (w:World) (h0:-9223372036854775808<=k) (h1:k<=9223372036854775807) :
  Calls Tryz.prog 24 #[.int .i64 k] w (GQ (k:Rat) w):=by
 have aY:Below w.heap.size w w:=Below.refl _ _
 go_enter Tryz.func24,Tryz.ntmps24
 go_wp2_with fail
 (with_reducible refine(KH _ _ (by omega) (by omega)).mono ?_)
 rintro e w1 ⟨v1,rfl,hi1,hb1⟩
 obtain⟨g1,p1,n1,c1,h1,o1,m1,e1,rfl⟩:=hi1.form
 obtain⟨hA1,k0⟩:=bx1 w rfl [.bool false,.slice none 0 0,.bool false,.slice none 0 0] 30
 have bF:=(k0.to hb1)
 obtain⟨a0,e0,b0,f0,c0,g0,d0,i0⟩:=bF.cf4
 have j0:=(Below.tr (Below.tr aY hA1) hb1)
 go_wp2_with fail
 exact bodyPost_ret (v:=.agg #[.bool g1,.slice p1 n1 c1,.bool h1,.slice o1 m1 e1]) (by simp[results,Tryz.results24,go_sem,a0,e0,b0,f0,c0,g0,d0,i0]) rfl ⟨_,rfl,(hi1.aT bF rfl rfl rfl rfl (.bool g1) (.slice p1 n1 c1) (.bool h1) (.slice o1 m1 e1)),(Below.aT j0 (b:=w.heap.size) (by omega) (.bool g1) (.slice p1 n1 c1) (.bool h1) (.slice o1 m1 e1))⟩
theorem a1e (x y:Int) (w:World) (b d:Bool) (p o:Option Addr) (n c m e:Nat) (k1:fJ w (.agg #[.bool b,.slice p n c]) false x) (k2:fJ w (.agg #[.bool d,.slice o m e]) false y) (hl:isz x<=999999999) (hl2:isz y<=999999999) :
  Calls Tryz.prog 84 #[.agg #[.bool b,.slice p n c,.bool d,.slice o m e]] w fun e w'=>e=.returned (.bool (false&&(false&&(decide (0<y)&&decide (Int.gcd x y=1)))))/\Below w.heap.size w w':=by
 have HX:Hid (false=(false&&(false&&(decide (0<y)&&decide (Int.gcd x y=1))))):=by unfold Hid;simp
 have aY:Below w.heap.size w w:=Below.refl _ _
 go_enter Tryz.func84,Tryz.ntmps84
 go_wp2_with fail
 obtain⟨hA1,c0⟩:=bx1 w rfl [.bool b,.slice p n c,.bool d,.slice o m e] 30
 have b0:=(k1.below hA1)
 (with_reducible refine(jD _ _ _ _ b0).mono ?_)
 rintro e w1 ⟨rfl,hb1⟩
 have a0:=(Below.tr (Below.tr aY hA1) hb1)
 go_wp2_with fail
 go_ret
 exact⟨fA HX.out,a0⟩
theorem a1f (x y:Int) (w:World) (b d:Bool) (p o:Option Addr) (n c m e:Nat) (k1:fJ w (.agg #[.bool b,.slice p n c]) false x) (k2:fJ w (.agg #[.bool d,.slice o m e]) true y) (hl:isz x<=999999999) (hl2:isz y<=999999999) :
  Calls Tryz.prog 84 #[.agg #[.bool b,.slice p n c,.bool d,.slice o m e]] w fun e w'=>e=.returned (.bool (false&&(true&&(decide (0<y)&&decide (Int.gcd x y=1)))))/\Below w.heap.size w w':=by
 have HX:Hid (false=(false&&(true&&(decide (0<y)&&decide (Int.gcd x y=1))))):=by unfold Hid;simp
 have aY:Below w.heap.size w w:=Below.refl _ _
 go_enter Tryz.func84,Tryz.ntmps84
 go_wp2_with fail
 obtain⟨hA1,c0⟩:=bx1 w rfl [.bool b,.slice p n c,.bool d,.slice o m e] 30
 have b0:=(k1.below hA1)
 (with_reducible refine(jD _ _ _ _ b0).mono ?_)
 rintro e w1 ⟨rfl,hb1⟩
 have a0:=(Below.tr (Below.tr aY hA1) hb1)
 go_wp2_with fail
 go_ret
 exact⟨fA HX.out,a0⟩
theorem a1g (x y:Int) (w:World) (b d:Bool) (p o:Option Addr) (n c m e:Nat) (k1:fJ w (.agg #[.bool b,.slice p n c]) true x) (k2:fJ w (.agg #[.bool d,.slice o m e]) false y) (hl:isz x<=999999999) (hl2:isz y<=999999999) :
  Calls Tryz.prog 84 #[.agg #[.bool b,.slice p n c,.bool d,.slice o m e]] w fun e w'=>e=.returned (.bool (true&&(false&&(decide (0<y)&&decide (Int.gcd x y=1)))))/\Below w.heap.size w w':=by
 have HX:Hid (false=(true&&(false&&(decide (0<y)&&decide (Int.gcd x y=1))))):=by unfold Hid;simp
 have aY:Below w.heap.size w w:=Below.refl _ _
 go_enter Tryz.func84,Tryz.ntmps84
 go_wp2_with fail
 obtain⟨hA1,b0⟩:=bx1 w rfl [.bool b,.slice p n c,.bool d,.slice o m e] 30
 have c0:=(k1.below hA1)
 (with_reducible refine(jD _ _ _ _ c0).mono ?_)
 rintro e w1 ⟨rfl,hb1⟩
 have bF:=(b0.to hb1)
 obtain⟨e0,f0,g0,h0⟩:=bF.cs4
 go_wp2_with fail
 have CY:=((k2.below hA1).below hb1)
 have d0:=CY
 (with_reducible refine(jD _ _ _ _ d0).mono ?_)
 rintro e w2 ⟨rfl,hb2⟩
 have a0:=(Below.tr (Below.tr (Below.tr aY hA1) hb1) hb2)
 go_wp2_with fail
 go_ret
 exact⟨fA HX.out,a0⟩
theorem a1h (x y:Int) (w:World) (b d:Bool) (p o:Option Addr) (n c m e:Nat) (k1:fJ w (.agg #[.bool b,.slice p n c]) true x) (k2:fJ w (.agg #[.bool d,.slice o m e]) true y) (hl:isz x<=999999999) (hl2:isz y<=999999999) (hd:¬ 0<y) :
  Calls Tryz.prog 84 #[.agg #[.bool b,.slice p n c,.bool d,.slice o m e]] w fun e w'=>e=.returned (.bool (true&&(true&&(decide (0<y)&&decide (Int.gcd x y=1)))))/\Below w.heap.size w w':=by
 have HX:Hid (false=(true&&(true&&(decide (0<y)&&decide (Int.gcd x y=1))))):=by unfold Hid;simp[hd]
 have hsg:decide (sgn y<=0)=true:=by have:=a8W hd;simpa using this
 clear hd
 have aY:Below w.heap.size w w:=Below.refl _ _
 go_enter Tryz.func84,Tryz.ntmps84
 go_wp2_with fail
 obtain⟨hA1,b0⟩:=bx1 w rfl [.bool b,.slice p n c,.bool d,.slice o m e] 30
 have c0:=(k1.below hA1)
 (with_reducible refine(jD _ _ _ _ c0).mono ?_)
 rintro e w1 ⟨rfl,hb1⟩
 have bF:=(b0.to hb1)
 obtain⟨f0,h0,j0,l0⟩:=bF.cs4
 go_wp2_with fail
 have CY:=((k2.below hA1).below hb1)
 have d0:=CY
 (with_reducible refine(jD _ _ _ _ d0).mono ?_)
 rintro e w2 ⟨rfl,hb2⟩
 have bV:=(bF.to hb2)
 obtain⟨g0,i0,k0,m0⟩:=bV.cs4
 go_wp2_with fail
 have XI:=(CY.below hb2)
 have e0:=XI.raw
 (with_reducible refine(mV _ (y) _ e0 (by omega)).mono ?_)
 rintro e w3 ⟨rfl,hb3⟩
 have a0:=(Below.tr (Below.tr (Below.tr (Below.tr aY hA1) hb1) hb2) hb3)
 go_wp2_with fail
 go_ret
 exact⟨fA HX.out,a0⟩
theorem a1i (x y:Int) (w:World) (b d:Bool) (p o:Option Addr) (n c m e:Nat) (k1:fJ w (.agg #[.bool b,.slice p n c]) true x) (k2:fJ w (.agg #[.bool d,.slice o m e]) true y) (hl:isz x<=999999999) (hl2:isz y<=999999999) (hd:0<y) :
  Calls Tryz.prog 84 #[.agg #[.bool b,.slice p n c,.bool d,.slice o m e]] w fun e w'=>e=.returned (.bool (true&&(true&&(decide (0<y)&&decide (Int.gcd x y=1)))))/\Below w.heap.size w w':=by
 have HX:Hid ((dB ((Int.gcd x y:Nat):Int) 1==0)=(true&&(true&&(decide (0<y)&&decide (Int.gcd x y=1))))):=by unfold Hid;rw[JM];simp[hd];omega
 have hsg:decide (sgn y<=0)=false:=by rw[wP hd];rfl
 have hlg:isz ((Int.gcd x y:Nat):Int)<=999999999:=oP (by omega) (by omega)
 have h1g:isz 1<=999999999:=Nat.le_trans (uS (k:=1) (by rw[bG];decide)) (by omega)
 clear hd
 have aY:Below w.heap.size w w:=Below.refl _ _
 go_enter Tryz.func84,Tryz.ntmps84
 go_wp2_with fail
 obtain⟨hA1,b0⟩:=bx1 w rfl [.bool b,.slice p n c,.bool d,.slice o m e] 30
 have c0:=(k1.below hA1)
 (with_reducible refine(jD _ _ _ _ c0).mono ?_)
 rintro e w1 ⟨rfl,hb1⟩
 have bF:=(b0.to hb1)
 obtain⟨k0,n0,q0,t0⟩:=bF.cs4
 go_wp2_with fail
 have CY:=((k2.below hA1).below hb1)
 have d0:=CY
 (with_reducible refine(jD _ _ _ _ d0).mono ?_)
 rintro e w2 ⟨rfl,hb2⟩
 have bV:=(bF.to hb2)
 obtain⟨l0,o0,r0,u0⟩:=bV.cs4
 go_wp2_with fail
 have XI:=(CY.below hb2)
 have e0:=XI.raw
 (with_reducible refine(mV _ (y) _ e0 (by omega)).mono ?_)
 rintro e w3 ⟨rfl,hb3⟩
 have gV:=(bV.to hb3)
 obtain⟨m0,p0,s0,v0⟩:=gV.cs4
 go_wp2_with fail
 have b2l:=((((k1.below hA1).below hb1).below hb2).below hb3)
 have f0:=b2l.raw
 have b2m:=(XI.below hb3)
 have g0:=b2m.raw
 (with_reducible refine(FI _ _ (x) (y) _ f0 g0 (by omega) (by omega)).mono ?_)
 rintro e w4 ⟨v4,rfl,hi4,hb4⟩
 obtain⟨g4,p4,n4,c4,rfl⟩:=hi4.form
 go_wp2_with fail
 (with_reducible refine(sO _ _ (by omega) (by omega)).mono ?_)
 rintro e w5 ⟨v5,rfl,hi5,hb5⟩
 obtain⟨g5,p5,n5,c5,rfl⟩:=hi5.form
 go_wp2_with fail
 have j0:=(hi4.below hb5)
 have h0:=j0.raw
 have i0:=hi5.raw
 (with_reducible refine(lM _ _ ((Int.gcd (x) (y):Int)) (1) _ h0 i0 hlg h1g).mono ?_)
 rintro e w6 ⟨rfl,hb6⟩
 have a0:=(Below.tr (Below.tr (Below.tr (Below.tr (Below.tr (Below.tr (Below.tr aY hA1) hb1) hb2) hb3) hb4) hb5) hb6)
 go_wp2_with fail
 go_ret
 exact⟨fA HX.out,a0⟩
theorem qG (v:Value) (ok:Bool) (q:Rat) (w:World) (h:fE w v ok q) (hn:Qn v 999999999) :
  Calls Tryz.prog 84 #[v] w fun e w'=>e=.returned (.bool ok)/\Below w.heap.size w w':=by
 obtain⟨b,s,c,t,o1,o2,x,y,e,h1,h2,rfl,_⟩:=h
 obtain⟨b1,p1,n1,c1,b2,p2,n2,c2,e1,l1,l2⟩:=hn
 rw[e1] at e
 cases e
 subst e1
 have l3:=h1.raw.len
 have l4:=h2.raw.len
 cases o1
 ·cases o2
  ·exact a1e x y w _ _ _ _ _ _ _ _ h1 h2 (by omega) (by omega)
  ·exact a1f x y w _ _ _ _ _ _ _ _ h1 h2 (by omega) (by omega)
 ·cases o2
  ·exact a1g x y w _ _ _ _ _ _ _ _ h1 h2 (by omega) (by omega)
  ·by_cases hd:0<y
   ·exact a1i x y w _ _ _ _ _ _ _ _ h1 h2 (by omega) (by omega) hd
   ·exact a1h x y w _ _ _ _ _ _ _ _ h1 h2 (by omega) (by omega) hd
theorem YH (v:Value) (q:Rat) (w:World) (h:fE w v true q) (hn:Qn v 999999999) :
  Calls Tryz.prog 77 #[v] w (GQ q w):=by
 obtain⟨b,p,n,c,d,o,m,e,rfl⟩:=h.form
 have aY:Below w.heap.size w w:=Below.refl _ _
 go_enter Tryz.func77,Tryz.ntmps77
 go_wp2_with fail
 obtain⟨hA1,j0,k0⟩:=bx2 w rfl [.bool b,.slice p n c,.bool d,.slice o m e] 30 [.bool false,.slice none 0 0,.bool false,.slice none 0 0] 30
 have l0:=(h.below hA1)
 (with_reducible refine(qG _ _ _ _ l0 hn).mono ?_)
 rintro e w1 ⟨rfl,hb1⟩
 have bF:=(j0.to hb1)
 obtain⟨m0,n0,o0,p0⟩:=bF.cs4
 have dF:=(k0.to hb1)
 obtain⟨a0,e0,b0,f0,c0,g0,d0,h0⟩:=dF.cf4
 have h_1:=((h.below hA1).below hb1)
 have i0:=(Below.tr (Below.tr aY hA1) hb1)
 go_wp2_with fail
 exact bodyPost_ret (v:=.agg #[.bool b,.slice p n c,.bool d,.slice o m e]) (by simp[results,Tryz.results77,go_sem,a0,e0,b0,f0,c0,g0,d0,h0]) rfl ⟨_,rfl,fE.rq (h_1.aT dF rfl rfl rfl rfl (.bool b) (.slice p n c) (.bool d) (.slice o m e)),(Below.aT i0 (b:=w.heap.size+1) (by omega) (.bool b) (.slice p n c) (.bool d) (.slice o m e))⟩
theorem TA (v:Value) (q:Rat) (w:World) (h:fE w v false q) (hn:Qn v 999999999) :
  Calls Tryz.prog 77 #[v] w (GQ q w):=by
 obtain⟨b,p,n,c,d,o,m,e,rfl⟩:=h.form
 have HX:Hid (q=((0:Int):Rat)):=by unfold Hid;rw[h.no];rfl
 have aY:Below w.heap.size w w:=Below.refl _ _
 go_enter Tryz.func77,Tryz.ntmps77
 go_wp2_with fail
 obtain⟨hA1,l0,j0⟩:=bx2 w rfl [.bool b,.slice p n c,.bool d,.slice o m e] 30 [.bool false,.slice none 0 0,.bool false,.slice none 0 0] 30
 have k0:=(h.below hA1)
 (with_reducible refine(qG _ _ _ _ k0 hn).mono ?_)
 rintro e w1 ⟨rfl,hb1⟩
 go_wp2_with fail
 (with_reducible refine(KH _ _ (by omega) (by omega)).mono ?_)
 rintro e w2 ⟨v2,rfl,hi2,hb2⟩
 obtain⟨g2,p2,n2,c2,h2,o2,m2,e2,rfl⟩:=hi2.form
 have bJ:=((j0.to hb1).to hb2)
 obtain⟨a0,e0,b0,f0,c0,g0,d0,h0⟩:=bJ.cf4
 have i0:=(Below.tr (Below.tr (Below.tr aY hA1) hb1) hb2)
 go_wp2_with fail
 exact bodyPost_ret (v:=.agg #[.bool g2,.slice p2 n2 c2,.bool h2,.slice o2 m2 e2]) (by simp[results,Tryz.results77,go_sem,a0,e0,b0,f0,c0,g0,d0,h0]) rfl ⟨_,rfl,by rw[HX.out];exact(hi2.aT bJ rfl rfl rfl rfl (.bool g2) (.slice p2 n2 c2) (.bool h2) (.slice o2 m2 e2)),(Below.aT i0 (b:=w.heap.size+1) (by omega) (.bool g2) (.slice p2 n2 c2) (.bool h2) (.slice o2 m2 e2))⟩
theorem a1j (v:Value) (ok:Bool) (q:Rat) (w:World) (h:fE w v ok q) (hn:Qn v 999999999) :
  Calls Tryz.prog 77 #[v] w (GQ q w):=by
 cases ok
 ·exact TA v q w h hn
 ·exact YH v q w h hn
theorem mW (v:Value) (q:Rat) (w:World) (h:RQ w v q) (hl:rsz q<=999999999) :
 Calls Tryz.prog 77 #[v] w (GQ q w):=a1j v true q w h.raw (h.qn hl)
theorem LC (v u:Value) (x y:Int) (w:World) (hv:bU w v x) (hu:bU w u y) (hl:isz x<=400000000) (hl2:isz y<=400000000) (hd:0<y) :
  Calls Tryz.prog 86 #[v,u] w (GQ (Rat.divInt x y) w):=by
 obtain⟨b,p,n,c,rfl⟩:=hv.form
 obtain⟨d,o,m,e,rfl⟩:=hu.form
 have HX:=Lib.hid (a5X (n:=x) hd)
 have b1Y:isz ((Int.gcd x y:Nat):Int)<=400000000:=oP (by omega) hl2
 have hlh:isz ((Int.gcd x y:Nat):Int)<=1000000000:=by omega
 have hlg:isz ((Int.gcd x y:Nat):Int)<=400000000:=by exact b1Y
 have b1V:((Int.gcd x y:Nat):Int)≠0:=gcd_ne (by omega)
 have hg0:((Int.gcd x y:Nat):Int)≠0:=by omega
 have hsg:decide (sgn y<0)=false:=by rw[wP hd];rfl
 clear hd b1V
 have aY:Below w.heap.size w w:=Below.refl _ _
 go_enter Tryz.func86,Tryz.ntmps86
 go_wp2_with fail
 obtain⟨hA1,y1,z1,a2⟩:=bx3 w rfl [.bool b,.slice p n c] 28 [.bool d,.slice o m e] 28 [.bool false,.slice none 0 0,.bool false,.slice none 0 0] 30
 have e2:=(hv.below hA1).raw
 have f2:=(hu.below hA1).raw
 (with_reducible refine(FI _ _ (x) (y) _ e2 f2 (by omega) (by omega)).mono ?_)
 rintro e w1 ⟨v1,rfl,hi1,hb1⟩
 obtain⟨g1,p1,n1,c1,rfl⟩:=hi1.form
 have dF:=(z1.to hb1)
 obtain⟨p2,r2⟩:=dF.cs2
 have bF:=(y1.to hb1)
 have s0:=(bF).1
 have x0:=(dF).1
 have DF:=(a2.to hb1)
 have d1:=(DF).1
 go_wp2_with fail
 have iU:=((hu.below hA1).below hb1)
 obtain⟨hA2,b2⟩:=bx1 w1 rfl [.bool g1,.slice p1 n1 c1] 28
 have g2:=(iU.below hA2).raw
 (with_reducible refine(mV _ (y) _ g2 (by omega)).mono ?_)
 rintro e w2 ⟨rfl,hb2⟩
 have bV:=((bF.to hA2).to hb2)
 obtain⟨n2,o2⟩:=bV.cs2
 have k1:=(b2.to hb2)
 obtain⟨q1,s1⟩:=k1.cs2
 go_wp2_with fail
 have wH:=((((hv.below hA1).below hb1).below hA2).below hb2)
 have h2:=wH.raw
 have j1:=((hi1.below hA2).below hb2)
 have i2:=j1.raw
 (with_reducible refine(qE _ _ (x) ((Int.gcd (x) (y):Int)) _ h2 i2 (by omega) hlg hg0).mono ?_)
 rintro e w3 ⟨v3,u3,rfl,hi3,hj3,hb3⟩
 obtain⟨g3,p3,n3,c3,rfl⟩:=hi3.form
 obtain⟨h3,o3,m3,e3,rfl⟩:=hj3.form
 have lY:=(((dF.to hA2).to hb2).to hb3)
 obtain⟨q2,s2⟩:=lY.cs2
 have a0:=(k1.to hb3)
 obtain⟨r1,t1⟩:=a0.cs2
 have gV:=(bV.to hb3)
 have t0:=(gV).1
 have y0:=(lY).1
 have BK:=(((DF.to hA2).to hb2).to hb3)
 have e1:=(BK).1
 have k0:=(a0).1
 obtain⟨hA3,t2⟩:=bx1 w3 rfl [.bool false,.slice none 0 0] 28
 have u0:=((gV.to hA3)).1
 have z0:=((lY.to hA3)).1
 have f1:=((BK.to hA3)).1
 have l0:=((a0.to hA3)).1
 go_wp2_with fail
 have EN:=(((iU.below hA2).below hb2).below hb3)
 obtain⟨hA4,c2,d2⟩:=bx2 w3 rfl [.bool g3,.slice p3 n3 c3] 28 [.bool h3,.slice o3 m3 e3] 28
 have j2:=(EN.below hA4).raw
 have l2:=(j1.below hb3)
 have k2:=(l2.below hA4).raw
 (with_reducible refine(qE _ _ (y) ((Int.gcd (x) (y):Int)) _ j2 k2 (by omega) hlg hg0).mono ?_)
 rintro e w4 ⟨v4,u4,rfl,hi4,hj4,hb4⟩
 obtain⟨g4,p4,n4,c4,rfl⟩:=hi4.form
 obtain⟨h4,o4,m4,e4,rfl⟩:=hj4.form
 have j0:=(c2.to hb4)
 obtain⟨u1,x1⟩:=j0.cs2
 have lK:=((BK.to hA4).to hb4)
 obtain⟨b0,f0,c0,g0,d0,h0,e0,i0⟩:=lK.cf4
 have jU:=((gV.to hA4).to hb4)
 have v0:=(jU).1
 have jQ:=((lY.to hA4).to hb4)
 have a1:=(jQ).1
 have h1:=(lK).1
 have l1:=((a0.to hA4).to hb4)
 have m0:=(l1).1
 have o0:=(j0).1
 have m1:=(d2.to hb4)
 have q0:=(m1).1
 obtain⟨hA5,u2⟩:=bx1 w4 rfl [.bool false,.slice none 0 0] 28
 have w0:=((jU.to hA5)).1
 have b1:=((jQ.to hA5)).1
 have i1:=((lK.to hA5)).1
 have n0:=((l1.to hA5)).1
 have p0:=((j0.to hA5)).1
 have r0:=((m1.to hA5)).1
 obtain⟨hA6,v2,x2⟩:=bx2 w4 rfl [.bool g4,.slice p4 n4 c4] 28 [.bool h4,.slice o4 m4 e4] 28
 have m2:=((hi3.below hA4).below hb4)
 obtain⟨hA7,y2,z2⟩:=bx2 ((((w4.setCell ⟨w.heap.size+1+1,0,none⟩ (.bool g3)).setCell ⟨w.heap.size+1+1,1,none⟩ (.slice p3 n3 c3)).setCell ⟨w.heap.size+1+1,2,none⟩ (.bool g4)).setCell ⟨w.heap.size+1+1,3,none⟩ (.slice p4 n4 c4)) (by simp:_=w4.heap.size) [.bool g4,.slice p4 n4 c4] 28 [.bool h4,.slice o4 m4 e4] 28
 have o1:=(Below.tr (Below.tr (Below.tr (Below.tr (Below.tr (Below.tr (Below.tr aY hA1) hb1) hA2) hb2) hb3) hA4) hb4)
 go_wp2_with fail
 exact bodyPost_ret (v:=.agg #[.bool g3,.slice p3 n3 c3,.bool g4,.slice p4 n4 c4]) (by simp[results,Tryz.results86,go_sem,s0,x0,d1,t0,y0,e1,k0,u0,z0,f1,l0,v0,a1,h1,m0,o0,q0,w0,b1,i1,n0,p0,r0,b0,f0,c0,g0,d0,h0,e0,i0]) rfl ⟨_,rfl,RQ.mk' ((m2.aT lK rfl rfl rfl rfl (.bool g3) (.slice p3 n3 c3) (.bool g4) (.slice p4 n4 c4)).below hA7) ((hi4.aT lK rfl rfl rfl rfl (.bool g3) (.slice p3 n3 c3) (.bool g4) (.slice p4 n4 c4)).below hA7) HX.out.1 HX.out.2,(Below.tr (Below.aT o1 (b:=w.heap.size+1+1) (by omega) (.bool g3) (.slice p3 n3 c3) (.bool g4) (.slice p4 n4 c4)) hA7)⟩
theorem QT (v u:Value) (x y:Int) (w:World) (hv:bU w v x) (hu:bU w u y) (hl:isz x<=400000000) (hl2:isz y<=400000000) (hd:y<0) :
  Calls Tryz.prog 86 #[v,u] w (GQ (Rat.divInt x y) w):=by
 obtain⟨b,p,n,c,rfl⟩:=hv.form
 obtain⟨d,o,m,e,rfl⟩:=hu.form
 have HX:=Lib.hid (a5W (n:=x) hd)
 have b1Y:isz ((Int.gcd x y:Nat):Int)<=400000000:=oP (by omega) hl2
 have hlh:isz ((Int.gcd x y:Nat):Int)<=1000000000:=by omega
 have hlg:isz (-((Int.gcd x y:Nat):Int))<=400000000:=by rw[mG];exact b1Y
 have b1V:((Int.gcd x y:Nat):Int)≠0:=gcd_ne (by omega)
 have hg0:(-((Int.gcd x y:Nat):Int))≠0:=by omega
 have hsg:decide (sgn y<0)=true:=by rw[FQ hd];rfl
 clear hd b1V
 have aY:Below w.heap.size w w:=Below.refl _ _
 go_enter Tryz.func86,Tryz.ntmps86
 go_wp2_with fail
 obtain⟨hA1,c2,d2,e2⟩:=bx3 w rfl [.bool b,.slice p n c] 28 [.bool d,.slice o m e] 28 [.bool false,.slice none 0 0,.bool false,.slice none 0 0] 30
 have i2:=(hv.below hA1).raw
 have j2:=(hu.below hA1).raw
 (with_reducible refine(FI _ _ (x) (y) _ i2 j2 (by omega) (by omega)).mono ?_)
 rintro e w1 ⟨v1,rfl,hi1,hb1⟩
 obtain⟨g1,p1,n1,c1,rfl⟩:=hi1.form
 have dF:=(d2.to hb1)
 obtain⟨v2,y2⟩:=dF.cs2
 have bF:=(c2.to hb1)
 have x0:=(bF).1
 have d1:=(dF).1
 have DF:=(e2.to hb1)
 have j1:=(DF).1
 go_wp2_with fail
 have iU:=((hu.below hA1).below hb1)
 obtain⟨hA2,f2⟩:=bx1 w1 rfl [.bool g1,.slice p1 n1 c1] 28
 have k2:=(iU.below hA2).raw
 (with_reducible refine(mV _ (y) _ k2 (by omega)).mono ?_)
 rintro e w2 ⟨rfl,hb2⟩
 have q1:=(f2.to hb2)
 obtain⟨u1,y1⟩:=q1.cs2
 go_wp2_with fail
 have q2:=((hi1.below hA2).below hb2)
 have l2:=q2.raw
 (with_reducible refine(FM _ ((Int.gcd (x) (y):Int)) _ l2 hlh).mono ?_)
 rintro e w3 ⟨v3,rfl,hi3,hb3⟩
 obtain⟨g3,p3,n3,c3,rfl⟩:=hi3.form
 have a0:=(q1.to hb3)
 obtain⟨c0,e0,d0,f0⟩:=a0.cf2
 have gV:=(((bF.to hA2).to hb2).to hb3)
 obtain⟨t2,u2⟩:=gV.cs2
 go_wp2_with fail
 have yQ:=(((((hv.below hA1).below hb1).below hA2).below hb2).below hb3)
 have m2:=(yQ.aF a0 rfl rfl (.bool g3) (.slice p3 n3 c3)).raw
 have n2:=(hi3.aF a0 rfl rfl (.bool g3) (.slice p3 n3 c3)).raw
 (with_reducible refine(qE _ _ (x) (-(((Int.gcd (x) (y):Int)))) _ m2 n2 (by omega) hlg hg0).mono ?_)
 rintro e w4 ⟨v4,u4,rfl,hi4,hj4,hb4⟩
 obtain⟨g4,p4,n4,c4,rfl⟩:=hi4.form
 obtain⟨h4,o4,m4,e4,rfl⟩:=hj4.form
 have jQ:=(((((dF.to hA2).to hb2).to hb3).aJ (b:=w1.heap.size) (by omega) (.bool g3) (.slice p3 n3 c3)).to hb4)
 obtain⟨x2,z2⟩:=jQ.cs2
 have b0:=((a0.store2 (.bool g3) (.slice p3 n3 c3)).to hb4)
 obtain⟨x1,z1⟩:=b0.cs2
 have jU:=((gV.aJ (b:=w1.heap.size) (by omega) (.bool g3) (.slice p3 n3 c3)).to hb4)
 have y0:=(jU).1
 have e1:=(jQ).1
 have lK:=(((((DF.to hA2).to hb2).to hb3).aJ (b:=w1.heap.size) (by omega) (.bool g3) (.slice p3 n3 c3)).to hb4)
 have k1:=(lK).1
 have p0:=(b0).1
 obtain⟨hA3,a3⟩:=bx1 w4 rfl [.bool false,.slice none 0 0] 28
 have z0:=((jU.to hA3)).1
 have f1:=((jQ.to hA3)).1
 have l1:=((lK.to hA3)).1
 have q0:=((b0.to hA3)).1
 go_wp2_with fail
 have CW:=(((((iU.below hA2).below hb2).below hb3).aF a0 rfl rfl (.bool g3) (.slice p3 n3 c3)).below hb4)
 obtain⟨hA4,g2,h2⟩:=bx2 w4 rfl [.bool g4,.slice p4 n4 c4] 28 [.bool h4,.slice o4 m4 e4] 28
 have o2:=(CW.below hA4).raw
 have r2:=((hi3.aF a0 rfl rfl (.bool g3) (.slice p3 n3 c3)).below hb4)
 have p2:=(r2.below hA4).raw
 (with_reducible refine(qE _ _ (y) (-(((Int.gcd (x) (y):Int)))) _ o2 p2 (by omega) hlg hg0).mono ?_)
 rintro e w5 ⟨v5,u5,rfl,hi5,hj5,hb5⟩
 obtain⟨g5,p5,n5,c5,rfl⟩:=hi5.form
 obtain⟨h5,o5,m5,e5,rfl⟩:=hj5.form
 have o0:=(g2.to hb5)
 obtain⟨a2,b2⟩:=o0.cs2
 have zC:=((lK.to hA4).to hb5)
 obtain⟨g0,k0,h0,l0,i0,m0,j0,n0⟩:=zC.cf4
 have SN:=((jU.to hA4).to hb5)
 have a1:=(SN).1
 have a8E:=((jQ.to hA4).to hb5)
 have h1:=(a8E).1
 have m1:=(zC).1
 have r1:=((b0.to hA4).to hb5)
 have r0:=(r1).1
 have t0:=(o0).1
 have s1:=(h2.to hb5)
 have v0:=(s1).1
 obtain⟨hA5,b3⟩:=bx1 w5 rfl [.bool false,.slice none 0 0] 28
 have b1:=((SN.to hA5)).1
 have i1:=((a8E.to hA5)).1
 have o1:=((zC.to hA5)).1
 have s0:=((r1.to hA5)).1
 have u0:=((o0.to hA5)).1
 have w0:=((s1.to hA5)).1
 obtain⟨hA6,d3,e3⟩:=bx2 w5 rfl [.bool g5,.slice p5 n5 c5] 28 [.bool h5,.slice o5 m5 e5] 28
 have s2:=((hi4.below hA4).below hb5)
 obtain⟨hA7,f3,h3⟩:=bx2 ((((w5.setCell ⟨w.heap.size+1+1,0,none⟩ (.bool g4)).setCell ⟨w.heap.size+1+1,1,none⟩ (.slice p4 n4 c4)).setCell ⟨w.heap.size+1+1,2,none⟩ (.bool g5)).setCell ⟨w.heap.size+1+1,3,none⟩ (.slice p5 n5 c5)) (by simp:_=w5.heap.size) [.bool g5,.slice p5 n5 c5] 28 [.bool h5,.slice o5 m5 e5] 28
 have t1:=(Below.tr (Below.tr (Below.tr (Below.aF (Below.tr (Below.tr (Below.tr (Below.tr (Below.tr aY hA1) hb1) hA2) hb2) hb3) (b:=w1.heap.size) (by omega) (.bool g3) (.slice p3 n3 c3)) hb4) hA4) hb5)
 go_wp2_with fail
 exact bodyPost_ret (v:=.agg #[.bool g4,.slice p4 n4 c4,.bool g5,.slice p5 n5 c5]) (by simp[results,Tryz.results86,go_sem,x0,d1,j1,c0,e0,d0,f0,y0,e1,k1,p0,z0,f1,l1,q0,a1,h1,m1,r0,t0,v0,b1,i1,o1,s0,u0,w0,g0,k0,h0,l0,i0,m0,j0,n0]) rfl ⟨_,rfl,RQ.mk' ((s2.aT zC rfl rfl rfl rfl (.bool g4) (.slice p4 n4 c4) (.bool g5) (.slice p5 n5 c5)).below hA7) ((hi5.aT zC rfl rfl rfl rfl (.bool g4) (.slice p4 n4 c4) (.bool g5) (.slice p5 n5 c5)).below hA7) HX.out.1 HX.out.2,(Below.tr (Below.aT t1 (b:=w.heap.size+1+1) (by omega) (.bool g4) (.slice p4 n4 c4) (.bool g5) (.slice p5 n5 c5)) hA7)⟩
theorem uV (v u:Value) (x y:Int) (w:World) (hv:bU w v x) (hu:bU w u y) (hl:isz x<=400000000) (hl2:isz y<=400000000) (hd:y≠0) :
  Calls Tryz.prog 86 #[v,u] w (GQ (Rat.divInt x y) w):=by
 rcases Int.lt_trichotomy y 0 with h|h|h
 ·exact QT v u x y w hv hu hl hl2 h
 ·exact absurd h hd
 ·exact LC v u x y w hv hu hl hl2 h
theorem a8L (v u:Value) (x y:Int) (w:World) (hv:bU w v x) (hu:bU w u y) (hl:isz x<=400000000) (hl2:isz y<=400000000) (hd:y≠0) :
  Calls Tryz.prog 97 #[v,u] w (GQC (Rat.divInt x y) 0 w):=by
 obtain⟨b,p,n,c,rfl⟩:=hv.form
 obtain⟨d,o,m,e,rfl⟩:=hu.form
 have KY:(sgn y==0)=false:=by have:=JE hd;simpa using this
 have aY:Below w.heap.size w w:=Below.refl _ _
 go_enter Tryz.func97,Tryz.ntmps97
 go_wp2_with fail
 obtain⟨hA1,j0,k0,l0⟩:=bx3 w rfl [.bool b,.slice p n c] 28 [.bool d,.slice o m e] 28 [.bool false,.slice none 0 0,.bool false,.slice none 0 0] 30
 have m0:=(hu.below hA1).raw
 (with_reducible refine(mV _ (y) _ m0 (by omega)).mono ?_)
 rintro e w1 ⟨rfl,hb1⟩
 have bF:=(j0.to hb1)
 obtain⟨p0,q0⟩:=bF.cs2
 have dF:=(k0.to hb1)
 obtain⟨r0,s0⟩:=dF.cs2
 go_wp2_with fail
 have nC:=((hv.below hA1).below hb1)
 have n0:=nC
 have iU:=((hu.below hA1).below hb1)
 have o0:=iU
 (with_reducible refine(uV _ _ (x) (y) _ n0 o0 hl hl2 hd).mono ?_)
 rintro e w2 ⟨v2,rfl,hi2,hb2⟩
 obtain⟨g2,p2,n2,c2,h2,o2,m2,e2,rfl⟩:=hi2.form
 have kX:=((l0.to hb1).to hb2)
 obtain⟨a0,e0,b0,f0,c0,g0,d0,h0⟩:=kX.cf4
 have i0:=(Below.tr (Below.tr (Below.tr aY hA1) hb1) hb2)
 go_wp2_with fail
 exact bodyPost_ret (v:=.tuple #[.agg #[.bool g2,.slice p2 n2 c2,.bool h2,.slice o2 m2 e2],.int .i64 0]) (by simp[results,Tryz.results97,go_sem,a0,e0,b0,f0,c0,g0,d0,h0]) rfl ⟨_,rfl,(hi2.aT kX rfl rfl rfl rfl (.bool g2) (.slice p2 n2 c2) (.bool h2) (.slice o2 m2 e2)),(Below.aT i0 (b:=w.heap.size+1+1) (by omega) (.bool g2) (.slice p2 n2 c2) (.bool h2) (.slice o2 m2 e2))⟩
theorem a0w {x:Int} (h0:-9223372036854775808<=x) (h1:x<=9223372036854775807):isz x<=400000000 :=
 Nat.le_trans (uS (k:=3) (by rw[bG];omega)) (by omega)
theorem a8M (i k:Int) (w:World) (h0:-9223372036854775808<=i) (h1:i<=9223372036854775807) (h2:-9223372036854775808<=k) (h3:k<=9223372036854775807) (hk:k≠0) :
  Calls Tryz.prog 47 #[.int .i64 i,.int .i64 k] w (GQC (Rat.divInt i k) 0 w):=by
 have hz1:=a0w h0 h1
 have hz2:=a0w h2 h3
 have aY:Below w.heap.size w w:=Below.refl _ _
 go_enter Tryz.func47,Tryz.ntmps47
 go_wp2_with fail
 (with_reducible refine(sO _ _ (by omega) (by omega)).mono ?_)
 rintro e w1 ⟨v1,rfl,hi1,hb1⟩
 obtain⟨g1,p1,n1,c1,rfl⟩:=hi1.form
 go_wp2_with fail
 (with_reducible refine(sO _ _ (by omega) (by omega)).mono ?_)
 rintro e w2 ⟨v2,rfl,hi2,hb2⟩
 obtain⟨g2,p2,n2,c2,rfl⟩:=hi2.form
 go_wp2_with fail
 have n0:=(hi1.below hb2)
 have l0:=n0
 have m0:=hi2
 (with_reducible refine(a8L _ _ (i) (k) _ l0 m0 hz1 hz2 hk).mono ?_)
 rintro e w3 ⟨v3,rfl,hi3,hb3⟩
 obtain⟨g3,p3,n3,c3,h3,o3,m3,e3,rfl⟩:=hi3.form
 obtain⟨hA1,k0⟩:=bx1 w rfl [.bool false,.slice none 0 0,.bool false,.slice none 0 0] 30
 have gV:=(((k0.to hb1).to hb2).to hb3)
 obtain⟨a0,e0,b0,f0,c0,g0,d0,i0⟩:=gV.cf4
 have j0:=(Below.tr (Below.tr (Below.tr (Below.tr aY hA1) hb1) hb2) hb3)
 go_wp2_with fail
 exact bodyPost_ret (v:=.tuple #[.agg #[.bool g3,.slice p3 n3 c3,.bool h3,.slice o3 m3 e3],.int .i64 0]) (by simp[results,Tryz.results47,go_sem,a0,e0,b0,f0,c0,g0,d0,i0]) rfl ⟨_,rfl,(hi3.aT gV rfl rfl rfl rfl (.bool g3) (.slice p3 n3 c3) (.bool h3) (.slice o3 m3 e3)),(Below.aT j0 (b:=w.heap.size) (by omega) (.bool g3) (.slice p3 n3 c3) (.bool h3) (.slice o3 m3 e3))⟩
theorem QV (v:Value) (q:Rat) (w:World) (fa:RQ w v q) (hl:rsz q<=999999999) :
  Calls Tryz.prog 22 #[v] w (fun e w'=>e=.returned (.int .i64 (sgn q.num))/\Below w.heap.size w w'):=by
 obtain⟨b,p,n,c,d,o,m,e,rfl⟩:=fa.form
 have hb1:=dL q
 have hb2:=cO q
 have b0:=JX
 have aY:Below w.heap.size w w:=Below.refl _ _
 go_enter Tryz.func22,Tryz.ntmps22
 go_wp2_with fail
 obtain⟨hA1,e0⟩:=bx1 w rfl [.bool b,.slice p n c,.bool d,.slice o m e] 30
 have c0:=(fa.below hA1)
 (with_reducible refine(mW _ (q) _ c0 (by omega)).mono ?_)
 rintro e w1 ⟨v1,rfl,hi1,hb1⟩
 obtain⟨g1,p1,n1,c1,h1,o1,m1,e1,rfl⟩:=hi1.form
 go_wp2_with fail
 have d0:=hi1.num.raw
 (with_reducible refine(mV _ (((q)).num) _ d0 (by omega)).mono ?_)
 rintro e w2 ⟨rfl,hb2⟩
 have a0:=(Below.tr (Below.tr (Below.tr aY hA1) hb1) hb2)
 go_wp2_with fail
 go_ret
 exact⟨rfl,a0⟩
theorem UY (v:Value) (q:Rat) (w:World) (fa:RQ w v q) (hl:rsz q<=999999999) :
  Calls Tryz.prog 111 #[v] w (GQ (-q) w):=by
 obtain⟨b,p,n,c,d,o,m,e,rfl⟩:=fa.form
 have hb1:=dL q
 have hb2:=cO q
 have aY:Below w.heap.size w w:=Below.refl _ _
 go_enter Tryz.func111,Tryz.ntmps111
 go_wp2_with fail
 obtain⟨hA1,m0,n0⟩:=bx2 w rfl [.bool b,.slice p n c,.bool d,.slice o m e] 30 [.bool false,.slice none 0 0,.bool false,.slice none 0 0] 30
 have p0:=(fa.below hA1)
 (with_reducible refine(mW _ (q) _ p0 (by omega)).mono ?_)
 rintro e w1 ⟨v1,rfl,hi1,hb1⟩
 obtain⟨g1,p1,n1,c1,h1,o1,m1,e1,rfl⟩:=hi1.form
 have bF:=(m0.to hb1)
 have i0:=(bF).1
 have dF:=(n0.to hb1)
 have j0:=(dF).1
 go_wp2_with fail
 obtain⟨hA2,o0⟩:=bx1 w1 rfl [.bool g1,.slice p1 n1 c1,.bool h1,.slice o1 m1 e1] 30
 have MI:=(o0.drew).bs4
 have k0:dD (w.heap.size+1) (BS4 w1.heap.size (.bool g1) (.slice p1 n1 c1) (.bool h1) (.slice o1 m1 e1)):=(BS4.hc (by omega))
 have tk1:True:=trivial
 go_region_held3 (BS4 w1.heap.size (.bool g1) (.slice p1 n1 c1) (.bool h1) (.slice o1 m1 e1)) (first|with_reducible exact MI|with_reducible exact gB.go BS4.hk (by assumption) (by assumption)|with_reducible exact dD.go4 k0 (by assumption)|(simp;done))
  (first
   | (((have:=tk1);clear tk1;have q0:=(hi1.below hA2).drew.num.raw;go_at_call 126;(with_reducible refine(FM _ (((q)).num) _ q0 (by omega)).mono ?_);rintro e w2 ⟨v2,rfl,hi2,hb2⟩;obtain⟨g2,p2,n2,c2,rfl⟩:=hi2.form;have bJ:=((dF.to hA2).drew.to hb2);obtain⟨a0,e0,b0,f0,c0,g0,d0,h0⟩:=bJ.cf4)))
 have r0:=((hi1.below hA2).drew.below hb2)
 have l0:=(Below.tr (Below.tr (Below.tr (Below.tr aY hA1) hb1) hA2).drew hb2)
 go_wp2_with fail
 exact bodyPost_ret (v:=.agg #[.bool g2,.slice p2 n2 c2,.bool h1,.slice o1 m1 e1]) (by simp[results,Tryz.results111,go_sem,i0,j0,a0,e0,b0,f0,c0,g0,d0,h0]) rfl ⟨_,rfl,RQ.mk' (hi2.aT bJ rfl rfl rfl rfl (.bool g2) (.slice p2 n2 c2) (.bool h1) (.slice o1 m1 e1)) (r0.aT bJ rfl rfl rfl rfl (.bool g2) (.slice p2 n2 c2) (.bool h1) (.slice o1 m1 e1)).den (zD q).symm (by rw[KI]),(Below.aT l0 (b:=w.heap.size+1) (by omega) (.bool g2) (.slice p2 n2 c2) (.bool h1) (.slice o1 m1 e1))⟩
theorem UW (v u:Value) (x y:Rat) (w:World) (fa:RQ w v x) (fb:RQ w u y) (hl:rsz x<=190000000) (hl2:rsz y<=190000000) :
  Calls Tryz.prog 43 #[v,u] w (GQ (x+y) w):=by
 obtain⟨b,p,n,c,d,o,m,e,rfl⟩:=fa.form
 obtain⟨f,i,j,k,g,r,t,a,rfl⟩:=fb.form
 have hb1:=dL x
 have hb2:=cO x
 have hb3:=dL y
 have hb4:=cO y
 have hc1:=eF x.num y.den
 have hc2:=eF y.num x.den
 have hc3:=LM (x.num*y.den) (y.num*x.den)
 have hc4:=eF x.den y.den
 have HX:=Lib.hid (XW x y)
 have hd0:=wF x y
 have aY:Below w.heap.size w w:=Below.refl _ _
 go_enter Tryz.func43,Tryz.ntmps43
 go_wp2_with fail
 obtain⟨hA1,v0,w0,x0⟩:=bx3 w rfl [.bool b,.slice p n c,.bool d,.slice o m e] 30 [.bool f,.slice i j k,.bool g,.slice r t a] 30 [.bool false,.slice none 0 0,.bool false,.slice none 0 0] 30
 have a1:=(fa.below hA1)
 (with_reducible refine(mW _ (x) _ a1 (by omega)).mono ?_)
 rintro e w1 ⟨v1,rfl,hi1,hb1⟩
 obtain⟨g1,p1,n1,c1,h1,o1,m1,e1,rfl⟩:=hi1.form
 have dF:=(w0.to hb1)
 obtain⟨a2,b2,d2,f2⟩:=dF.cs4
 have bF:=(v0.to hb1)
 have j0:=(bF).1
 have l0:=(dF).1
 have DF:=(x0.to hb1)
 have n0:=(DF).1
 go_wp2_with fail
 have a5r:=((fb.below hA1).below hb1)
 obtain⟨hA2,y0⟩:=bx1 w1 rfl [.bool g1,.slice p1 n1 c1,.bool h1,.slice o1 m1 e1] 30
 have b1:=(a5r.below hA2)
 (with_reducible refine(mW _ (y) _ b1 (by omega)).mono ?_)
 rintro e w2 ⟨v2,rfl,hi2,hb2⟩
 obtain⟨g2,p2,n2,c2,h2,o2,m2,e2,rfl⟩:=hi2.form
 have bV:=((bF.to hA2).to hb2)
 have k0:=(bV).1
 have bJ:=((dF.to hA2).to hb2)
 have m0:=(bJ).1
 have kX:=((DF.to hA2).to hb2)
 have o0:=(kX).1
 have s0:=(y0.to hb2)
 have i0:=(s0).1
 go_wp2_with fail
 obtain⟨hA3,z0⟩:=bx1 w2 rfl [.bool g2,.slice p2 n2 c2,.bool h2,.slice o2 m2 e2] 30
 have a6D:=(aP.mk ((s0.to hA3).drew).bs4 (z0.drew).bs4)
 have t0:dD (w.heap.size+1+1) (aP (BS4 w1.heap.size (.bool g1) (.slice p1 n1 c1) (.bool h1) (.slice o1 m1 e1)) (BS4 w2.heap.size (.bool g2) (.slice p2 n2 c2) (.bool h2) (.slice o2 m2 e2))):=(aP.hc (BS4.hc (by omega)) (BS4.hc (by omega)))
 have tk1:True:=trivial
 have tk2:True:=trivial
 have tk3:True:=trivial
 have tk4:True:=trivial
 have tk5:True:=trivial
 go_region_held3 (aP (BS4 w1.heap.size (.bool g1) (.slice p1 n1 c1) (.bool h1) (.slice o1 m1 e1)) (BS4 w2.heap.size (.bool g2) (.slice p2 n2 c2) (.bool h2) (.slice o2 m2 e2))) (first|with_reducible exact a6D|with_reducible exact gB.go (aP.hk BS4.hk BS4.hk) (by assumption) (by assumption)|with_reducible exact dD.go4 t0 (by assumption)|(simp;done))
  (first
   | (((have:=tk1);clear tk1;have p0:=((hi1.below hA2).below hb2);have d1:=(p0.below hA3).drew.num.raw;have f1:=(hi2.below hA3).drew.den.raw;go_at_call 88;(with_reducible refine(nR _ _ (((x)).num) ((((y)).den:Int)) _ d1 f1 (by omega) (by omega)).mono ?_);rintro e w3 ⟨v3,rfl,hi3,hb3⟩;obtain⟨g3,p3,n3,c3,rfl⟩:=hi3.form))
   | (((have:=tk2);clear tk2;have r0:=((hi2.below hA3).drew.below hb3);have i1:=r0.num.raw;have q0:=((p0.below hA3).drew.below hb3);have j1:=q0.den.raw;go_at_call 88;(with_reducible refine(nR _ _ (((y)).num) ((((x)).den:Int)) _ i1 j1 (by omega) (by omega)).mono ?_);rintro e w4 ⟨v4,rfl,hi4,hb4⟩;obtain⟨g4,p4,n4,c4,rfl⟩:=hi4.form))
   | (((have:=tk3);clear tk3;have y1:=(hi3.below hb4);have k1:=y1.raw;have l1:=hi4.raw;go_at_call 87;(with_reducible refine(a0O _ _ ((((x)).num)*((((y)).den:Int))) ((((y)).num)*((((x)).den:Int))) _ k1 l1 (by omega) (by omega)).mono ?_);rintro e w5 ⟨v5,rfl,hi5,hb5⟩;obtain⟨g5,p5,n5,c5,rfl⟩:=hi5.form))
   | (((have:=tk4);clear tk4;have u1:=((q0.below hb4).below hb5);have q1:=u1.den.raw;have x1:=((r0.below hb4).below hb5);have r1:=x1.den.raw;go_at_call 88;(with_reducible refine(nR _ _ ((((x)).den:Int)) ((((y)).den:Int)) _ q1 r1 (by omega) (by omega)).mono ?_);rintro e w6 ⟨v6,rfl,hi6,hb6⟩;obtain⟨g6,p6,n6,c6,rfl⟩:=hi6.form))
   | (((have:=tk5);clear tk5;have z1:=(hi5.below hb6);have s1:=z1;have t1:=hi6;go_at_call 86;(with_reducible refine(uV _ _ (((((x)).num)*((((y)).den:Int)))+((((y)).num)*((((x)).den:Int)))) (((((x)).den:Int))*((((y)).den:Int))) _ s1 t1 (by omega) (by omega) hd0).mono ?_);rintro e w7 ⟨v7,rfl,hi7,hb7⟩;obtain⟨g7,p7,n7,c7,h7,o7,m7,e7,rfl⟩:=hi7.form;have a8F:=((((((kX.to hA3).drew.to hb3).to hb4).to hb5).to hb6).to hb7);obtain⟨a0,e0,b0,f0,c0,g0,d0,h0⟩:=a8F.cf4)))
 have u0:=(Below.tr (Below.tr (Below.tr (Below.tr (Below.tr (Below.tr (Below.tr (Below.tr (Below.tr (Below.tr aY hA1) hb1) hA2) hb2) hA3).drew hb3) hb4) hb5) hb6) hb7)
 go_wp2_with fail
 exact bodyPost_ret (v:=.agg #[.bool g7,.slice p7 n7 c7,.bool h7,.slice o7 m7 e7]) (by simp[results,Tryz.results43,go_sem,j0,l0,n0,k0,m0,o0,i0,a0,e0,b0,f0,c0,g0,d0,h0]) rfl ⟨_,rfl,by rw[<-HX.out];exact(hi7.aT a8F rfl rfl rfl rfl (.bool g7) (.slice p7 n7 c7) (.bool h7) (.slice o7 m7 e7)),(Below.aT u0 (b:=w.heap.size+1+1) (by omega) (.bool g7) (.slice p7 n7 c7) (.bool h7) (.slice o7 m7 e7))⟩
theorem a5Z (v u:Value) (x y:Rat) (w:World) (fa:RQ w v x) (fb:RQ w u y) (hl:rsz x<=190000000) (hl2:rsz y<=190000000) :
  Calls Tryz.prog 44 #[v,u] w (GQ (x*y) w):=by
 obtain⟨b,p,n,c,d,o,m,e,rfl⟩:=fa.form
 obtain⟨f,i,j,k,g,r,t,a,rfl⟩:=fb.form
 have hb1:=dL x
 have hb2:=cO x
 have hb3:=dL y
 have hb4:=cO y
 have hc1:=eF x.num y.num
 have hc4:=eF x.den y.den
 have HX:=Lib.hid (XY x y)
 have hd0:=wF x y
 have aY:Below w.heap.size w w:=Below.refl _ _
 go_enter Tryz.func44,Tryz.ntmps44
 go_wp2_with fail
 obtain⟨hA1,t0,u0,v0⟩:=bx3 w rfl [.bool b,.slice p n c,.bool d,.slice o m e] 30 [.bool f,.slice i j k,.bool g,.slice r t a] 30 [.bool false,.slice none 0 0,.bool false,.slice none 0 0] 30
 have y0:=(fa.below hA1)
 (with_reducible refine(mW _ (x) _ y0 (by omega)).mono ?_)
 rintro e w1 ⟨v1,rfl,hi1,hb1⟩
 obtain⟨g1,p1,n1,c1,h1,o1,m1,e1,rfl⟩:=hi1.form
 have dF:=(u0.to hb1)
 obtain⟨r1,s1,t1,u1⟩:=dF.cs4
 have bF:=(t0.to hb1)
 have j0:=(bF).1
 have l0:=(dF).1
 have DF:=(v0.to hb1)
 have n0:=(DF).1
 go_wp2_with fail
 have a5r:=((fb.below hA1).below hb1)
 obtain⟨hA2,w0⟩:=bx1 w1 rfl [.bool g1,.slice p1 n1 c1,.bool h1,.slice o1 m1 e1] 30
 have z0:=(a5r.below hA2)
 (with_reducible refine(mW _ (y) _ z0 (by omega)).mono ?_)
 rintro e w2 ⟨v2,rfl,hi2,hb2⟩
 obtain⟨g2,p2,n2,c2,h2,o2,m2,e2,rfl⟩:=hi2.form
 have bV:=((bF.to hA2).to hb2)
 have k0:=(bV).1
 have bJ:=((dF.to hA2).to hb2)
 have m0:=(bJ).1
 have kX:=((DF.to hA2).to hb2)
 have o0:=(kX).1
 have q0:=(w0.to hb2)
 have i0:=(q0).1
 go_wp2_with fail
 obtain⟨hA3,x0⟩:=bx1 w2 rfl [.bool g2,.slice p2 n2 c2,.bool h2,.slice o2 m2 e2] 30
 have a6D:=(aP.mk ((q0.to hA3).drew).bs4 (x0.drew).bs4)
 have r0:dD (w.heap.size+1+1) (aP (BS4 w1.heap.size (.bool g1) (.slice p1 n1 c1) (.bool h1) (.slice o1 m1 e1)) (BS4 w2.heap.size (.bool g2) (.slice p2 n2 c2) (.bool h2) (.slice o2 m2 e2))):=(aP.hc (BS4.hc (by omega)) (BS4.hc (by omega)))
 have tk1:True:=trivial
 have tk2:True:=trivial
 have tk3:True:=trivial
 go_region_held3 (aP (BS4 w1.heap.size (.bool g1) (.slice p1 n1 c1) (.bool h1) (.slice o1 m1 e1)) (BS4 w2.heap.size (.bool g2) (.slice p2 n2 c2) (.bool h2) (.slice o2 m2 e2))) (first|with_reducible exact a6D|with_reducible exact gB.go (aP.hk BS4.hk BS4.hk) (by assumption) (by assumption)|with_reducible exact dD.go4 r0 (by assumption)|(simp;done))
  (first
   | (((have:=tk1);clear tk1;have p0:=((hi1.below hA2).below hb2);have a1:=(p0.below hA3).drew.num.raw;have b1:=(hi2.below hA3).drew.num.raw;go_at_call 88;(with_reducible refine(nR _ _ (((x)).num) (((y)).num) _ a1 b1 (by omega) (by omega)).mono ?_);rintro e w3 ⟨v3,rfl,hi3,hb3⟩;obtain⟨g3,p3,n3,c3,rfl⟩:=hi3.form))
   | (((have:=tk2);clear tk2;have k1:=((p0.below hA3).drew.below hb3);have d1:=k1.den.raw;have l1:=((hi2.below hA3).drew.below hb3);have f1:=l1.den.raw;go_at_call 88;(with_reducible refine(nR _ _ ((((x)).den:Int)) ((((y)).den:Int)) _ d1 f1 (by omega) (by omega)).mono ?_);rintro e w4 ⟨v4,rfl,hi4,hb4⟩;obtain⟨g4,p4,n4,c4,rfl⟩:=hi4.form))
   | (((have:=tk3);clear tk3;have q1:=(hi3.below hb4);have i1:=q1;have j1:=hi4;go_at_call 86;(with_reducible refine(uV _ _ ((((x)).num)*(((y)).num)) (((((x)).den:Int))*((((y)).den:Int))) _ i1 j1 (by omega) (by omega) hd0).mono ?_);rintro e w5 ⟨v5,rfl,hi5,hb5⟩;obtain⟨g5,p5,n5,c5,h5,o5,m5,e5,rfl⟩:=hi5.form;have zC:=((((kX.to hA3).drew.to hb3).to hb4).to hb5);obtain⟨a0,e0,b0,f0,c0,g0,d0,h0⟩:=zC.cf4)))
 have s0:=(Below.tr (Below.tr (Below.tr (Below.tr (Below.tr (Below.tr (Below.tr (Below.tr aY hA1) hb1) hA2) hb2) hA3).drew hb3) hb4) hb5)
 go_wp2_with fail
 exact bodyPost_ret (v:=.agg #[.bool g5,.slice p5 n5 c5,.bool h5,.slice o5 m5 e5]) (by simp[results,Tryz.results44,go_sem,j0,l0,n0,k0,m0,o0,i0,a0,e0,b0,f0,c0,g0,d0,h0]) rfl ⟨_,rfl,by rw[<-HX.out];exact(hi5.aT zC rfl rfl rfl rfl (.bool g5) (.slice p5 n5 c5) (.bool h5) (.slice o5 m5 e5)),(Below.aT s0 (b:=w.heap.size+1+1) (by omega) (.bool g5) (.slice p5 n5 c5) (.bool h5) (.slice o5 m5 e5))⟩
theorem a6f (v u:Value) (x y:Rat) (w:World) (fa:RQ w v x) (fb:RQ w u y) (hl:rsz x<=190000000) (hl2:rsz y<=190000000) :
  Calls Tryz.prog 78 #[v,u] w (GQ (x-y) w):=by
 obtain⟨b,p,n,c,d,o,m,e,rfl⟩:=fa.form
 obtain⟨f,i,j,k,g,r,t,a,rfl⟩:=fb.form
 have hb1:=dL x
 have hb2:=cO x
 have hb3:=dL y
 have hb4:=cO y
 have hc5:rsz (-y)<=190000000:=by rw[FP];exact hl2
 have aY:Below w.heap.size w w:=Below.refl _ _
 go_enter Tryz.func78,Tryz.ntmps78
 go_wp2_with fail
 obtain⟨hA1,l0,m0,i0⟩:=bx3 w rfl [.bool b,.slice p n c,.bool d,.slice o m e] 30 [.bool f,.slice i j k,.bool g,.slice r t a] 30 [.bool false,.slice none 0 0,.bool false,.slice none 0 0] 30
 have vT:=(aP.mk (l0.drew).bs4 (aP.mk (m0.drew).bs4 (BN.of (i0.drew))))
 have j0:dD (w.heap.size+1+1) (aP (BS4 w.heap.size (.bool b) (.slice p n c) (.bool d) (.slice o m e)) (aP (BS4 (w.heap.size+1) (.bool f) (.slice i j k) (.bool g) (.slice r t a)) (BN (w.heap.size+1+1)))):=(aP.hc (BS4.hc (by omega)) (aP.hc (BS4.hc (by omega)) BN.hc))
 have tk1:True:=trivial
 have tk2:True:=trivial
 go_region_held3 (aP (BS4 w.heap.size (.bool b) (.slice p n c) (.bool d) (.slice o m e)) (aP (BS4 (w.heap.size+1) (.bool f) (.slice i j k) (.bool g) (.slice r t a)) (BN (w.heap.size+1+1)))) (first|with_reducible exact vT|with_reducible exact gB.go (aP.hk BS4.hk (aP.hk BS4.hk BN.hk)) (by assumption) (by assumption)|with_reducible exact dD.go4 j0 (by assumption)|(simp;done))
  (first
   | (((have:=tk1);clear tk1;have n0:=(fb.below hA1).drew;go_at_call 111;(with_reducible refine(UY _ (y) _ n0 (by omega)).mono ?_);rintro e w1 ⟨v1,rfl,hi1,hb1⟩;obtain⟨g1,p1,n1,c1,h1,o1,m1,e1,rfl⟩:=hi1.form))
   | (((have:=tk2);clear tk2;have b1J:=((fa.below hA1).drew.below hb1);have o0:=b1J;have p0:=hi1;go_at_call 43;(with_reducible refine(UW _ _ (x) (-(y)) _ o0 p0 hl hc5).mono ?_);rintro e w2 ⟨v2,rfl,hi2,hb2⟩;obtain⟨g2,p2,n2,c2,h2,o2,m2,e2,rfl⟩:=hi2.form;have kX:=((i0.drew.to hb1).to hb2);obtain⟨a0,e0,b0,f0,c0,g0,d0,h0⟩:=kX.cf4)))
 have k0:=(Below.tr (Below.tr (Below.tr aY hA1).drew hb1) hb2)
 go_wp2_with fail
 exact bodyPost_ret (v:=.agg #[.bool g2,.slice p2 n2 c2,.bool h2,.slice o2 m2 e2]) (by simp[results,Tryz.results78,go_sem,a0,e0,b0,f0,c0,g0,d0,h0]) rfl ⟨_,rfl,by rw[Rat.sub_eq_add_neg];exact(hi2.aT kX rfl rfl rfl rfl (.bool g2) (.slice p2 n2 c2) (.bool h2) (.slice o2 m2 e2)),(Below.aT k0 (b:=w.heap.size+1+1) (by omega) (.bool g2) (.slice p2 n2 c2) (.bool h2) (.slice o2 m2 e2))⟩
theorem a8Y (x y:Rat):sgn (x-y).num=qP x y:=by
 unfold qP
 have h1:=Rat.lt_iff (x-y) 0
 have h2:=Rat.lt_iff 0 (x-y)
 simp at h1 h2
 by_cases hx:x<y
 ·rw[if_pos hx,FQ (h1.1 (by grind))]
 ·rw[if_neg hx]
  by_cases hy:y<x
  ·rw[if_pos hy,wP (h2.1 (by grind))]
  ·rw[if_neg hy]
   have:x-y=0:=by grind
   rw[this];rfl
theorem BX (v u:Value) (x y:Rat) (w:World) (fa:RQ w v x) (fb:RQ w u y) (hl:rsz x<=190000000) (hl2:rsz y<=190000000) :
  Calls Tryz.prog 23 #[v,u] w (fun e w'=>e=.returned (.int .i64 (qP x y))/\Below w.heap.size w w'):=by
 obtain⟨b,p,n,c,d,o,m,e,rfl⟩:=fa.form
 obtain⟨f,i,j,k,g,r,t,a,rfl⟩:=fb.form
 have hb1:=dL x
 have hb2:=cO x
 have hb3:=dL y
 have hb4:=cO y
 have hc5:=uG x y
 have aY:Below w.heap.size w w:=Below.refl _ _
 go_enter Tryz.func23,Tryz.ntmps23
 go_wp2_with fail
 obtain⟨hA1,e0,f0⟩:=bx2 w rfl [.bool b,.slice p n c,.bool d,.slice o m e] 30 [.bool f,.slice i j k,.bool g,.slice r t a] 30
 have b0:=(fa.below hA1)
 have c0:=(fb.below hA1)
 (with_reducible refine(a6f _ _ (x) (y) _ b0 c0 hl hl2).mono ?_)
 rintro e w1 ⟨v1,rfl,hi1,hb1⟩
 obtain⟨g1,p1,n1,c1,h1,o1,m1,e1,rfl⟩:=hi1.form
 go_wp2_with fail
 have d0:=hi1
 (with_reducible refine(QV _ ((x)-(y)) _ d0 (by omega)).mono ?_)
 rintro e w2 ⟨rfl,hb2⟩
 have a0:=(Below.tr (Below.tr (Below.tr aY hA1) hb1) hb2)
 go_wp2_with fail
 go_ret
 exact⟨fH (a8Y x y),a0⟩
theorem VB (v u:Value) (x y:Rat) (w:World) (fa:RQ w v x) (fb:RQ w u y) (hl:rsz x<=190000000) (hl2:rsz y<=190000000) :
  Calls Tryz.prog 75 #[v,u] w (GB (decide (x=y)) w):=by
 have hn1:=fa.qn (k:=999999999) (by omega)
 have hn2:=fb.qn (k:=999999999) (by omega)
 obtain⟨b,p,n,c,d,o,m,e,rfl⟩:=fa.form
 obtain⟨f,i,j,k,g,r,t,a,rfl⟩:=fb.form
 have HX:Hid ((qP x y==0)=decide (x=y)):=Lib.hid (by
  have:=rD x y
  rw[Bool.eq_iff_iff]
  simp only[beq_iff_eq,decide_eq_true_eq]
  exact this)
 have aY:Below w.heap.size w w:=Below.refl _ _
 go_enter Tryz.func75,Tryz.ntmps75
 go_wp2_with fail
 obtain⟨hA1,b0,c0⟩:=bx2 w rfl [.bool b,.slice p n c,.bool d,.slice o m e] 30 [.bool f,.slice i j k,.bool g,.slice r t a] 30
 have d0:=(fa.below hA1).raw
 (with_reducible refine(qG _ _ _ _ d0 hn1).mono ?_)
 rintro e w1 ⟨rfl,hb1⟩
 have dF:=(c0.to hb1)
 obtain⟨l0,n0,p0,r0⟩:=dF.cs4
 go_wp2_with fail
 have a5r:=((fb.below hA1).below hb1)
 have e0:=a5r.raw
 (with_reducible refine(qG _ _ _ _ e0 hn2).mono ?_)
 rintro e w2 ⟨rfl,hb2⟩
 have bV:=((b0.to hb1).to hb2)
 obtain⟨h0,i0,j0,k0⟩:=bV.cs4
 have bJ:=(dF.to hb2)
 obtain⟨m0,o0,q0,s0⟩:=bJ.cs4
 go_wp2_with fail
 have b7E:=(((fa.below hA1).below hb1).below hb2)
 have f0:=b7E
 have b7F:=(a5r.below hb2)
 have g0:=b7F
 (with_reducible refine(BX _ _ (x) (y) _ f0 g0 hl hl2).mono ?_)
 rintro e w3 ⟨rfl,hb3⟩
 have a0:=(Below.tr (Below.tr (Below.tr (Below.tr aY hA1) hb1) hb2) hb3)
 go_wp2_with fail
 go_ret
 exact⟨fA HX.out,a0⟩
theorem YC (v u:Value) (x y:Rat) (w:World) (fa:RQ w v x) (fb:RQ w u y) (hl:rsz x<=190000000) (hl2:rsz y<=190000000) :
  Calls Tryz.prog 21 #[v,u] w (GB (decide (x=y)) w):=by
 obtain⟨b,p,n,c,d,o,m,e,rfl⟩:=fa.form
 obtain⟨f,i,j,k,g,r,t,a,rfl⟩:=fb.form
 have aY:Below w.heap.size w w:=Below.refl _ _
 go_enter Tryz.func21,Tryz.ntmps21
 go_wp2_with fail
 obtain⟨hA1,d0,e0⟩:=bx2 w rfl [.bool b,.slice p n c,.bool d,.slice o m e] 30 [.bool f,.slice i j k,.bool g,.slice r t a] 30
 have b0:=(fa.below hA1)
 have c0:=(fb.below hA1)
 (with_reducible refine(VB _ _ _ _ _ b0 c0 hl hl2).mono ?_)
 rintro e w1 ⟨rfl,hb1⟩
 have a0:=(Below.tr (Below.tr aY hA1) hb1)
 go_wp2_with fail
 go_ret
 exact⟨rfl,a0⟩
end Go.Proofs.YtidfgdchcpmnfaaGreat
