/-
  Lemmas for the theorem vrounds_holds, part 27 of 33.
-/
import Derived.Test.YtidfgdchcpmnfaaGreatRd06
import Derived.Test.YtidfgdchcpmnfaaGreatRd10
import Derived.Test.YtidfgdchcpmnfaaGreatRd26
namespace Go.Proofs.YtidfgdchcpmnfaaGreat
open Go.RowKit
set_option maxRecDepth 100000
set_option maxHeartbeats 4000000
set_option linter.unusedSimpArgs false
set_option linter.unusedVariables false
theorem uF {x y:Int} (h:y ∣ x):x.fdiv y=x / y:=by
 rw[Int.fdiv_eq_ediv,if_pos (.inr h),Int.sub_zero]
theorem a6u {n d:Int} (hd:0<d):n.fdiv ((Int.gcd n d:Nat):Int)=(Rat.divInt n d).num/\d.fdiv ((Int.gcd n d:Nat):Int)=(Rat.divInt n d).den:=by
 rw[nT hd,nS hd]
 exact⟨uF (Int.gcd_dvd_left _ _),uF (Int.gcd_dvd_right _ _)⟩
theorem a6t {n d:Int} (hd:d<0):n.fdiv (-((Int.gcd n d:Nat):Int))=(Rat.divInt n d).num/\d.fdiv (-((Int.gcd n d:Nat):Int))=(Rat.divInt n d).den:=by
 rw[OG hd,OD hd]
 exact⟨uF (Int.neg_dvd.2 (Int.gcd_dvd_left _ _)),uF (Int.neg_dvd.2 (Int.gcd_dvd_right _ _))⟩
theorem sW (k:Int) (w:World) (h0:-9223372036854775808<=k) (h1:k<=9223372036854775807) :
  Calls Tryz.prog 98 #[.int .i64 k] w (kV k w):=by
 have aY:Below w.heap.size w w:=Below.refl _ _
 go_enter Tryz.func98,Tryz.ntmps98
 go_wp2_with fail
 (with_reducible refine(rF _ _ (by omega) (by omega)).mono ?_)
 rintro e w1 ⟨v1,rfl,hi1,hb1⟩
 obtain⟨g1,p1,n1,c1,rfl⟩:=hi1.form
 obtain⟨hA1,f0⟩:=bx1 w rfl [.bool false,.slice none 0 0] 28
 have bG:=(f0.to hb1)
 obtain⟨a0,c0,b0,d0⟩:=bG.cf2
 have e0:=(Below.tr (Below.tr aY hA1) hb1)
 go_wp2_with fail
 exact bodyPost_ret (v:=.agg #[.bool g1,.slice p1 n1 c1]) (by simp[results,Tryz.results98,go_sem,a0,c0,b0,d0]) rfl ⟨_,rfl,(hi1.aC bG rfl rfl (.bool g1) (.slice p1 n1 c1)),(Below.aC e0 (b:=w.heap.size) (by omega) (.bool g1) (.slice p1 n1 c1))⟩
theorem KP (k:Int) (w:World) (h0:-9223372036854775808<=k) (h1:k<=9223372036854775807) :
  Calls Tryz.prog 79 #[.int .i64 k] w (GQ (k:Rat) w):=by
 have aY:Below w.heap.size w w:=Below.refl _ _
 go_enter Tryz.func79,Tryz.ntmps79
 go_wp2_with fail
 (with_reducible refine(sW _ _ (by omega) (by omega)).mono ?_)
 rintro e w1 ⟨v1,rfl,hi1,hb1⟩
 obtain⟨g1,p1,n1,c1,rfl⟩:=hi1.form
 go_wp2_with fail
 (with_reducible refine(sW _ _ (by omega) (by omega)).mono ?_)
 rintro e w2 ⟨v2,rfl,hi2,hb2⟩
 obtain⟨g2,p2,n2,c2,rfl⟩:=hi2.form
 obtain⟨hA1,k0⟩:=bx1 w rfl [.bool false,.slice none 0 0,.bool false,.slice none 0 0] 30
 have bV:=((k0.to hb1).to hb2)
 obtain⟨a0,e0,b0,f0,c0,g0,d0,i0⟩:=bV.cf4
 have l0:=(hi1.below hb2)
 have j0:=(Below.tr (Below.tr (Below.tr aY hA1) hb1) hb2)
 go_wp2_with fail
 exact bodyPost_ret (v:=.agg #[.bool g1,.slice p1 n1 c1,.bool g2,.slice p2 n2 c2]) (by simp[results,Tryz.results79,go_sem,a0,e0,b0,f0,c0,g0,d0,i0]) rfl ⟨_,rfl,RQ.mk' (l0.aP bV rfl rfl rfl rfl (.bool g1) (.slice p1 n1 c1) (.bool g2) (.slice p2 n2 c2)) (hi2.aP bV rfl rfl rfl rfl (.bool g1) (.slice p1 n1 c1) (.bool g2) (.slice p2 n2 c2)) (MC k).symm (by rw[MB];rfl),(Below.aP j0 (b:=w.heap.size) (by omega) (.bool g1) (.slice p1 n1 c1) (.bool g2) (.slice p2 n2 c2))⟩
theorem JF (k:Int) (w:World) (h0:-9223372036854775808<=k) (h1:k<=9223372036854775807) :
  Calls Tryz.prog 24 #[.int .i64 k] w (GQ (k:Rat) w):=by
 have aY:Below w.heap.size w w:=Below.refl _ _
 go_enter Tryz.func24,Tryz.ntmps24
 go_wp2_with fail
 (with_reducible refine(KP _ _ (by omega) (by omega)).mono ?_)
 rintro e w1 ⟨v1,rfl,hi1,hb1⟩
 obtain⟨g1,p1,n1,c1,h1,o1,m1,e1,rfl⟩:=hi1.form
 obtain⟨hA1,k0⟩:=bx1 w rfl [.bool false,.slice none 0 0,.bool false,.slice none 0 0] 30
 have bG:=(k0.to hb1)
 obtain⟨a0,e0,b0,f0,c0,g0,d0,i0⟩:=bG.cf4
 have j0:=(Below.tr (Below.tr aY hA1) hb1)
 go_wp2_with fail
 exact bodyPost_ret (v:=.agg #[.bool g1,.slice p1 n1 c1,.bool h1,.slice o1 m1 e1]) (by simp[results,Tryz.results24,go_sem,a0,e0,b0,f0,c0,g0,d0,i0]) rfl ⟨_,rfl,(hi1.aP bG rfl rfl rfl rfl (.bool g1) (.slice p1 n1 c1) (.bool h1) (.slice o1 m1 e1)),(Below.aP j0 (b:=w.heap.size) (by omega) (.bool g1) (.slice p1 n1 c1) (.bool h1) (.slice o1 m1 e1))⟩
theorem a1x (x y:Int) (w:World) (b d:Bool) (p o:Option Addr) (n c m e:Nat) (k1:fJ w (.agg #[.bool b,.slice p n c]) false x) (k2:fJ w (.agg #[.bool d,.slice o m e]) false y) (hl:isz x<=999999999) (hl2:isz y<=999999999) :
  Calls Tryz.prog 84 #[.agg #[.bool b,.slice p n c,.bool d,.slice o m e]] w fun e w'=>e=.returned (.bool (false&&(false&&(decide (0<y)&&decide (Int.gcd x y=1)))))/\Below w.heap.size w w':=by
 have HX:Hid (false=(false&&(false&&(decide (0<y)&&decide (Int.gcd x y=1))))):=by unfold Hid;simp
 have aY:Below w.heap.size w w:=Below.refl _ _
 go_enter Tryz.func84,Tryz.ntmps84
 go_wp2_with fail
 obtain⟨hA1,c0⟩:=bx1 w rfl [.bool b,.slice p n c,.bool d,.slice o m e] 30
 have b0:=(k1.below hA1)
 (with_reducible refine(jD _ _ _ _ b0).mono ?_)
 rintro e w1 ⟨rfl,hb1⟩
 have a0:=(Below.tr (Below.tr aY hA1) hb1)
 go_wp2_with fail
 go_ret
 exact⟨fB HX.out,a0⟩
theorem a1y (x y:Int) (w:World) (b d:Bool) (p o:Option Addr) (n c m e:Nat) (k1:fJ w (.agg #[.bool b,.slice p n c]) false x) (k2:fJ w (.agg #[.bool d,.slice o m e]) true y) (hl:isz x<=999999999) (hl2:isz y<=999999999) :
  Calls Tryz.prog 84 #[.agg #[.bool b,.slice p n c,.bool d,.slice o m e]] w fun e w'=>e=.returned (.bool (false&&(true&&(decide (0<y)&&decide (Int.gcd x y=1)))))/\Below w.heap.size w w':=by
 have HX:Hid (false=(false&&(true&&(decide (0<y)&&decide (Int.gcd x y=1))))):=by unfold Hid;simp
 have aY:Below w.heap.size w w:=Below.refl _ _
 go_enter Tryz.func84,Tryz.ntmps84
 go_wp2_with fail
 obtain⟨hA1,c0⟩:=bx1 w rfl [.bool b,.slice p n c,.bool d,.slice o m e] 30
 have b0:=(k1.below hA1)
 (with_reducible refine(jD _ _ _ _ b0).mono ?_)
 rintro e w1 ⟨rfl,hb1⟩
 have a0:=(Below.tr (Below.tr aY hA1) hb1)
 go_wp2_with fail
 go_ret
 exact⟨fB HX.out,a0⟩
theorem a1z (x y:Int) (w:World) (b d:Bool) (p o:Option Addr) (n c m e:Nat) (k1:fJ w (.agg #[.bool b,.slice p n c]) true x) (k2:fJ w (.agg #[.bool d,.slice o m e]) false y) (hl:isz x<=999999999) (hl2:isz y<=999999999) :
  Calls Tryz.prog 84 #[.agg #[.bool b,.slice p n c,.bool d,.slice o m e]] w fun e w'=>e=.returned (.bool (true&&(false&&(decide (0<y)&&decide (Int.gcd x y=1)))))/\Below w.heap.size w w':=by
 have HX:Hid (false=(true&&(false&&(decide (0<y)&&decide (Int.gcd x y=1))))):=by unfold Hid;simp
 have aY:Below w.heap.size w w:=Below.refl _ _
 go_enter Tryz.func84,Tryz.ntmps84
 go_wp2_with fail
 obtain⟨hA1,b0⟩:=bx1 w rfl [.bool b,.slice p n c,.bool d,.slice o m e] 30
 have c0:=(k1.below hA1)
 (with_reducible refine(jD _ _ _ _ c0).mono ?_)
 rintro e w1 ⟨rfl,hb1⟩
 have bG:=(b0.to hb1)
 obtain⟨e0,f0,g0,h0⟩:=bG.cs4
 go_wp2_with fail
 have DL:=((k2.below hA1).below hb1)
 have d0:=DL
 (with_reducible refine(jD _ _ _ _ d0).mono ?_)
 rintro e w2 ⟨rfl,hb2⟩
 have a0:=(Below.tr (Below.tr (Below.tr aY hA1) hb1) hb2)
 go_wp2_with fail
 go_ret
 exact⟨fB HX.out,a0⟩
theorem a1A (x y:Int) (w:World) (b d:Bool) (p o:Option Addr) (n c m e:Nat) (k1:fJ w (.agg #[.bool b,.slice p n c]) true x) (k2:fJ w (.agg #[.bool d,.slice o m e]) true y) (hl:isz x<=999999999) (hl2:isz y<=999999999) (hd:¬ 0<y) :
  Calls Tryz.prog 84 #[.agg #[.bool b,.slice p n c,.bool d,.slice o m e]] w fun e w'=>e=.returned (.bool (true&&(true&&(decide (0<y)&&decide (Int.gcd x y=1)))))/\Below w.heap.size w w':=by
 have HX:Hid (false=(true&&(true&&(decide (0<y)&&decide (Int.gcd x y=1))))):=by unfold Hid;simp[hd]
 have hsg:decide (sgn y<=0)=true:=by have:=a9y hd;simpa using this
 clear hd
 have aY:Below w.heap.size w w:=Below.refl _ _
 go_enter Tryz.func84,Tryz.ntmps84
 go_wp2_with fail
 obtain⟨hA1,b0⟩:=bx1 w rfl [.bool b,.slice p n c,.bool d,.slice o m e] 30
 have c0:=(k1.below hA1)
 (with_reducible refine(jD _ _ _ _ c0).mono ?_)
 rintro e w1 ⟨rfl,hb1⟩
 have bG:=(b0.to hb1)
 obtain⟨f0,h0,j0,l0⟩:=bG.cs4
 go_wp2_with fail
 have DL:=((k2.below hA1).below hb1)
 have d0:=DL
 (with_reducible refine(jD _ _ _ _ d0).mono ?_)
 rintro e w2 ⟨rfl,hb2⟩
 have bV:=(bG.to hb2)
 obtain⟨g0,i0,k0,m0⟩:=bV.cs4
 go_wp2_with fail
 have XT:=(DL.below hb2)
 have e0:=XT.raw
 (with_reducible refine(nI _ (y) _ e0 (by omega)).mono ?_)
 rintro e w3 ⟨rfl,hb3⟩
 have a0:=(Below.tr (Below.tr (Below.tr (Below.tr aY hA1) hb1) hb2) hb3)
 go_wp2_with fail
 go_ret
 exact⟨fB HX.out,a0⟩
theorem a1B (x y:Int) (w:World) (b d:Bool) (p o:Option Addr) (n c m e:Nat) (k1:fJ w (.agg #[.bool b,.slice p n c]) true x) (k2:fJ w (.agg #[.bool d,.slice o m e]) true y) (hl:isz x<=999999999) (hl2:isz y<=999999999) (hd:0<y) :
  Calls Tryz.prog 84 #[.agg #[.bool b,.slice p n c,.bool d,.slice o m e]] w fun e w'=>e=.returned (.bool (true&&(true&&(decide (0<y)&&decide (Int.gcd x y=1)))))/\Below w.heap.size w w':=by
 have HX:Hid ((dG ((Int.gcd x y:Nat):Int) 1==0)=(true&&(true&&(decide (0<y)&&decide (Int.gcd x y=1))))):=by unfold Hid;rw[JW];simp[hd];omega
 have hsg:decide (sgn y<=0)=false:=by rw[wZ hd];rfl
 have hlg:isz ((Int.gcd x y:Nat):Int)<=999999999:=pI (by omega) (by omega)
 have h1g:isz 1<=999999999:=Nat.le_trans (qR (k:=1) (by rw[bI];decide)) (by omega)
 clear hd
 have aY:Below w.heap.size w w:=Below.refl _ _
 go_enter Tryz.func84,Tryz.ntmps84
 go_wp2_with fail
 obtain⟨hA1,b0⟩:=bx1 w rfl [.bool b,.slice p n c,.bool d,.slice o m e] 30
 have c0:=(k1.below hA1)
 (with_reducible refine(jD _ _ _ _ c0).mono ?_)
 rintro e w1 ⟨rfl,hb1⟩
 have bG:=(b0.to hb1)
 obtain⟨k0,n0,q0,t0⟩:=bG.cs4
 go_wp2_with fail
 have DL:=((k2.below hA1).below hb1)
 have d0:=DL
 (with_reducible refine(jD _ _ _ _ d0).mono ?_)
 rintro e w2 ⟨rfl,hb2⟩
 have bV:=(bG.to hb2)
 obtain⟨l0,o0,r0,u0⟩:=bV.cs4
 go_wp2_with fail
 have XT:=(DL.below hb2)
 have e0:=XT.raw
 (with_reducible refine(nI _ (y) _ e0 (by omega)).mono ?_)
 rintro e w3 ⟨rfl,hb3⟩
 have gV:=(bV.to hb3)
 obtain⟨m0,p0,s0,v0⟩:=gV.cs4
 go_wp2_with fail
 have b2P:=((((k1.below hA1).below hb1).below hb2).below hb3)
 have f0:=b2P.raw
 have b2Q:=(XT.below hb3)
 have g0:=b2Q.raw
 (with_reducible refine(FQ _ _ (x) (y) _ f0 g0 (by omega) (by omega)).mono ?_)
 rintro e w4 ⟨v4,rfl,hi4,hb4⟩
 obtain⟨g4,p4,n4,c4,rfl⟩:=hi4.form
 go_wp2_with fail
 (with_reducible refine(sW _ _ (by omega) (by omega)).mono ?_)
 rintro e w5 ⟨v5,rfl,hi5,hb5⟩
 obtain⟨g5,p5,n5,c5,rfl⟩:=hi5.form
 go_wp2_with fail
 have j0:=(hi4.below hb5)
 have h0:=j0.raw
 have i0:=hi5.raw
 (with_reducible refine(lV _ _ ((Int.gcd (x) (y):Int)) (1) _ h0 i0 hlg h1g).mono ?_)
 rintro e w6 ⟨rfl,hb6⟩
 have a0:=(Below.tr (Below.tr (Below.tr (Below.tr (Below.tr (Below.tr (Below.tr aY hA1) hb1) hb2) hb3) hb4) hb5) hb6)
 go_wp2_with fail
 go_ret
 exact⟨fB HX.out,a0⟩
theorem qN (v:Value) (ok:Bool) (q:Rat) (w:World) (h:fF w v ok q) (hn:Qn v 999999999) :
  Calls Tryz.prog 84 #[v] w fun e w'=>e=.returned (.bool ok)/\Below w.heap.size w w':=by
 obtain⟨b,s,c,t,o1,o2,x,y,e,h1,h2,rfl,_⟩:=h
 obtain⟨b1,p1,n1,c1,b2,p2,n2,c2,e1,l1,l2⟩:=hn
 rw[e1] at e
 cases e
 subst e1
 have l3:=h1.raw.len
 have l4:=h2.raw.len
 cases o1
 ·cases o2
  ·exact a1x x y w _ _ _ _ _ _ _ _ h1 h2 (by omega) (by omega)
  ·exact a1y x y w _ _ _ _ _ _ _ _ h1 h2 (by omega) (by omega)
 ·cases o2
  ·exact a1z x y w _ _ _ _ _ _ _ _ h1 h2 (by omega) (by omega)
  ·by_cases hd:0<y
   ·exact a1B x y w _ _ _ _ _ _ _ _ h1 h2 (by omega) (by omega) hd
   ·exact a1A x y w _ _ _ _ _ _ _ _ h1 h2 (by omega) (by omega) hd
theorem YR (v:Value) (q:Rat) (w:World) (h:fF w v true q) (hn:Qn v 999999999) :
  Calls Tryz.prog 77 #[v] w (GQ q w):=by
 obtain⟨b,p,n,c,d,o,m,e,rfl⟩:=h.form
 have aY:Below w.heap.size w w:=Below.refl _ _
 go_enter Tryz.func77,Tryz.ntmps77
 go_wp2_with fail
 obtain⟨hA1,j0,k0⟩:=bx2 w rfl [.bool b,.slice p n c,.bool d,.slice o m e] 30 [.bool false,.slice none 0 0,.bool false,.slice none 0 0] 30
 have l0:=(h.below hA1)
 (with_reducible refine(qN _ _ _ _ l0 hn).mono ?_)
 rintro e w1 ⟨rfl,hb1⟩
 have bG:=(j0.to hb1)
 obtain⟨m0,n0,o0,p0⟩:=bG.cs4
 have cZ:=(k0.to hb1)
 obtain⟨a0,e0,b0,f0,c0,g0,d0,h0⟩:=cZ.cf4
 have h_1:=((h.below hA1).below hb1)
 have i0:=(Below.tr (Below.tr aY hA1) hb1)
 go_wp2_with fail
 exact bodyPost_ret (v:=.agg #[.bool b,.slice p n c,.bool d,.slice o m e]) (by simp[results,Tryz.results77,go_sem,a0,e0,b0,f0,c0,g0,d0,h0]) rfl ⟨_,rfl,fF.rq (h_1.aP cZ rfl rfl rfl rfl (.bool b) (.slice p n c) (.bool d) (.slice o m e)),(Below.aP i0 (b:=w.heap.size+1) (by omega) (.bool b) (.slice p n c) (.bool d) (.slice o m e))⟩
theorem TN (v:Value) (q:Rat) (w:World) (h:fF w v false q) (hn:Qn v 999999999) :
  Calls Tryz.prog 77 #[v] w (GQ q w):=by
 obtain⟨b,p,n,c,d,o,m,e,rfl⟩:=h.form
 have HX:Hid (q=((0:Int):Rat)):=by unfold Hid;rw[h.no];rfl
 have aY:Below w.heap.size w w:=Below.refl _ _
 go_enter Tryz.func77,Tryz.ntmps77
 go_wp2_with fail
 obtain⟨hA1,l0,j0⟩:=bx2 w rfl [.bool b,.slice p n c,.bool d,.slice o m e] 30 [.bool false,.slice none 0 0,.bool false,.slice none 0 0] 30
 have k0:=(h.below hA1)
 (with_reducible refine(qN _ _ _ _ k0 hn).mono ?_)
 rintro e w1 ⟨rfl,hb1⟩
 go_wp2_with fail
 (with_reducible refine(KP _ _ (by omega) (by omega)).mono ?_)
 rintro e w2 ⟨v2,rfl,hi2,hb2⟩
 obtain⟨g2,p2,n2,c2,h2,o2,m2,e2,rfl⟩:=hi2.form
 have bH:=((j0.to hb1).to hb2)
 obtain⟨a0,e0,b0,f0,c0,g0,d0,h0⟩:=bH.cf4
 have i0:=(Below.tr (Below.tr (Below.tr aY hA1) hb1) hb2)
 go_wp2_with fail
 exact bodyPost_ret (v:=.agg #[.bool g2,.slice p2 n2 c2,.bool h2,.slice o2 m2 e2]) (by simp[results,Tryz.results77,go_sem,a0,e0,b0,f0,c0,g0,d0,h0]) rfl ⟨_,rfl,by rw[HX.out];exact(hi2.aP bH rfl rfl rfl rfl (.bool g2) (.slice p2 n2 c2) (.bool h2) (.slice o2 m2 e2)),(Below.aP i0 (b:=w.heap.size+1) (by omega) (.bool g2) (.slice p2 n2 c2) (.bool h2) (.slice o2 m2 e2))⟩
theorem a1C (v:Value) (ok:Bool) (q:Rat) (w:World) (h:fF w v ok q) (hn:Qn v 999999999) :
  Calls Tryz.prog 77 #[v] w (GQ q w):=by
 cases ok
 ·exact TN v q w h hn
 ·exact YR v q w h hn
theorem iY (v:Value) (q:Rat) (w:World) (h:RQ w v q) (hl:rsz q<=999999999) :
 Calls Tryz.prog 77 #[v] w (GQ q w):=a1C v true q w h.raw (h.qn hl)
theorem LU (v u:Value) (x y:Int) (w:World) (hv:bW w v x) (hu:bW w u y) (hl:isz x<=400000000) (hl2:isz y<=400000000) (hd:0<y) :
  Calls Tryz.prog 86 #[v,u] w (GQ (Rat.divInt x y) w):=by
 obtain⟨b,p,n,c,rfl⟩:=hv.form
 obtain⟨d,o,m,e,rfl⟩:=hu.form
 have HX:=Lib.hid (a6u (n:=x) hd)
 have b2C:isz ((Int.gcd x y:Nat):Int)<=400000000:=pI (by omega) hl2
 have hlh:isz ((Int.gcd x y:Nat):Int)<=1000000000:=by omega
 have hlg:isz ((Int.gcd x y:Nat):Int)<=400000000:=by exact b2C
 have b2z:((Int.gcd x y:Nat):Int)≠0:=gcd_ne (by omega)
 have hg0:((Int.gcd x y:Nat):Int)≠0:=by omega
 have hsg:decide (sgn y<0)=false:=by rw[wZ hd];rfl
 clear hd b2z
 have aY:Below w.heap.size w w:=Below.refl _ _
 go_enter Tryz.func86,Tryz.ntmps86
 go_wp2_with fail
 obtain⟨hA1,y1,z1,a2⟩:=bx3 w rfl [.bool b,.slice p n c] 28 [.bool d,.slice o m e] 28 [.bool false,.slice none 0 0,.bool false,.slice none 0 0] 30
 have e2:=(hv.below hA1).raw
 have f2:=(hu.below hA1).raw
 (with_reducible refine(FQ _ _ (x) (y) _ e2 f2 (by omega) (by omega)).mono ?_)
 rintro e w1 ⟨v1,rfl,hi1,hb1⟩
 obtain⟨g1,p1,n1,c1,rfl⟩:=hi1.form
 have cZ:=(z1.to hb1)
 obtain⟨p2,r2⟩:=cZ.cs2
 have bG:=(y1.to hb1)
 have s0:=(bG).1
 have x0:=(cZ).1
 have xZ:=(a2.to hb1)
 have d1:=(xZ).1
 go_wp2_with fail
 have iT:=((hu.below hA1).below hb1)
 obtain⟨hA2,b2⟩:=bx1 w1 rfl [.bool g1,.slice p1 n1 c1] 28
 have g2:=(iT.below hA2).raw
 (with_reducible refine(nI _ (y) _ g2 (by omega)).mono ?_)
 rintro e w2 ⟨rfl,hb2⟩
 have bV:=((bG.to hA2).to hb2)
 obtain⟨n2,o2⟩:=bV.cs2
 have k1:=(b2.to hb2)
 obtain⟨q1,s1⟩:=k1.cs2
 go_wp2_with fail
 have wJ:=((((hv.below hA1).below hb1).below hA2).below hb2)
 have h2:=wJ.raw
 have j1:=((hi1.below hA2).below hb2)
 have i2:=j1.raw
 (with_reducible refine(nH _ _ (x) ((Int.gcd (x) (y):Int)) _ h2 i2 (by omega) hlg hg0).mono ?_)
 rintro e w3 ⟨v3,u3,rfl,hi3,hj3,hb3⟩
 obtain⟨g3,p3,n3,c3,rfl⟩:=hi3.form
 obtain⟨h3,o3,m3,e3,rfl⟩:=hj3.form
 have mO:=(((cZ.to hA2).to hb2).to hb3)
 obtain⟨q2,s2⟩:=mO.cs2
 have a0:=(k1.to hb3)
 obtain⟨r1,t1⟩:=a0.cs2
 have gV:=(bV.to hb3)
 have t0:=(gV).1
 have y0:=(mO).1
 have BZ:=(((xZ.to hA2).to hb2).to hb3)
 have e1:=(BZ).1
 have k0:=(a0).1
 obtain⟨hA3,t2⟩:=bx1 w3 rfl [.bool false,.slice none 0 0] 28
 have u0:=((gV.to hA3)).1
 have z0:=((mO.to hA3)).1
 have f1:=((BZ.to hA3)).1
 have l0:=((a0.to hA3)).1
 go_wp2_with fail
 have EW:=(((iT.below hA2).below hb2).below hb3)
 obtain⟨hA4,c2,d2⟩:=bx2 w3 rfl [.bool g3,.slice p3 n3 c3] 28 [.bool h3,.slice o3 m3 e3] 28
 have j2:=(EW.below hA4).raw
 have l2:=(j1.below hb3)
 have k2:=(l2.below hA4).raw
 (with_reducible refine(nH _ _ (y) ((Int.gcd (x) (y):Int)) _ j2 k2 (by omega) hlg hg0).mono ?_)
 rintro e w4 ⟨v4,u4,rfl,hi4,hj4,hb4⟩
 obtain⟨g4,p4,n4,c4,rfl⟩:=hi4.form
 obtain⟨h4,o4,m4,e4,rfl⟩:=hj4.form
 have j0:=(c2.to hb4)
 obtain⟨u1,x1⟩:=j0.cs2
 have lU:=((BZ.to hA4).to hb4)
 obtain⟨b0,f0,c0,g0,d0,h0,e0,i0⟩:=lU.cf4
 have jZ:=((gV.to hA4).to hb4)
 have v0:=(jZ).1
 have jW:=((mO.to hA4).to hb4)
 have a1:=(jW).1
 have h1:=(lU).1
 have l1:=((a0.to hA4).to hb4)
 have m0:=(l1).1
 have o0:=(j0).1
 have m1:=(d2.to hb4)
 have q0:=(m1).1
 obtain⟨hA5,u2⟩:=bx1 w4 rfl [.bool false,.slice none 0 0] 28
 have w0:=((jZ.to hA5)).1
 have b1:=((jW.to hA5)).1
 have i1:=((lU.to hA5)).1
 have n0:=((l1.to hA5)).1
 have p0:=((j0.to hA5)).1
 have r0:=((m1.to hA5)).1
 obtain⟨hA6,v2,x2⟩:=bx2 w4 rfl [.bool g4,.slice p4 n4 c4] 28 [.bool h4,.slice o4 m4 e4] 28
 have m2:=((hi3.below hA4).below hb4)
 obtain⟨hA7,y2,z2⟩:=bx2 ((((w4.setCell ⟨w.heap.size+1+1,0,none⟩ (.bool g3)).setCell ⟨w.heap.size+1+1,1,none⟩ (.slice p3 n3 c3)).setCell ⟨w.heap.size+1+1,2,none⟩ (.bool g4)).setCell ⟨w.heap.size+1+1,3,none⟩ (.slice p4 n4 c4)) (by simp:_=w4.heap.size) [.bool g4,.slice p4 n4 c4] 28 [.bool h4,.slice o4 m4 e4] 28
 have o1:=(Below.tr (Below.tr (Below.tr (Below.tr (Below.tr (Below.tr (Below.tr aY hA1) hb1) hA2) hb2) hb3) hA4) hb4)
 go_wp2_with fail
 exact bodyPost_ret (v:=.agg #[.bool g3,.slice p3 n3 c3,.bool g4,.slice p4 n4 c4]) (by simp[results,Tryz.results86,go_sem,s0,x0,d1,t0,y0,e1,k0,u0,z0,f1,l0,v0,a1,h1,m0,o0,q0,w0,b1,i1,n0,p0,r0,b0,f0,c0,g0,d0,h0,e0,i0]) rfl ⟨_,rfl,RQ.mk' ((m2.aP lU rfl rfl rfl rfl (.bool g3) (.slice p3 n3 c3) (.bool g4) (.slice p4 n4 c4)).below hA7) ((hi4.aP lU rfl rfl rfl rfl (.bool g3) (.slice p3 n3 c3) (.bool g4) (.slice p4 n4 c4)).below hA7) HX.out.1 HX.out.2,(Below.tr (Below.aP o1 (b:=w.heap.size+1+1) (by omega) (.bool g3) (.slice p3 n3 c3) (.bool g4) (.slice p4 n4 c4)) hA7)⟩
theorem RJ (v u:Value) (x y:Int) (w:World) (hv:bW w v x) (hu:bW w u y) (hl:isz x<=400000000) (hl2:isz y<=400000000) (hd:y<0) :
  Calls Tryz.prog 86 #[v,u] w (GQ (Rat.divInt x y) w):=by
 obtain⟨b,p,n,c,rfl⟩:=hv.form
 obtain⟨d,o,m,e,rfl⟩:=hu.form
 have HX:=Lib.hid (a6t (n:=x) hd)
 have b2C:isz ((Int.gcd x y:Nat):Int)<=400000000:=pI (by omega) hl2
 have hlh:isz ((Int.gcd x y:Nat):Int)<=1000000000:=by omega
 have hlg:isz (-((Int.gcd x y:Nat):Int))<=400000000:=by rw[mX];exact b2C
 have b2z:((Int.gcd x y:Nat):Int)≠0:=gcd_ne (by omega)
 have hg0:(-((Int.gcd x y:Nat):Int))≠0:=by omega
 have hsg:decide (sgn y<0)=true:=by rw[BJ hd];rfl
 clear hd b2z
 have aY:Below w.heap.size w w:=Below.refl _ _
 go_enter Tryz.func86,Tryz.ntmps86
 go_wp2_with fail
 obtain⟨hA1,c2,d2,e2⟩:=bx3 w rfl [.bool b,.slice p n c] 28 [.bool d,.slice o m e] 28 [.bool false,.slice none 0 0,.bool false,.slice none 0 0] 30
 have i2:=(hv.below hA1).raw
 have j2:=(hu.below hA1).raw
 (with_reducible refine(FQ _ _ (x) (y) _ i2 j2 (by omega) (by omega)).mono ?_)
 rintro e w1 ⟨v1,rfl,hi1,hb1⟩
 obtain⟨g1,p1,n1,c1,rfl⟩:=hi1.form
 have cZ:=(d2.to hb1)
 obtain⟨v2,y2⟩:=cZ.cs2
 have bG:=(c2.to hb1)
 have x0:=(bG).1
 have d1:=(cZ).1
 have xZ:=(e2.to hb1)
 have j1:=(xZ).1
 go_wp2_with fail
 have iT:=((hu.below hA1).below hb1)
 obtain⟨hA2,f2⟩:=bx1 w1 rfl [.bool g1,.slice p1 n1 c1] 28
 have k2:=(iT.below hA2).raw
 (with_reducible refine(nI _ (y) _ k2 (by omega)).mono ?_)
 rintro e w2 ⟨rfl,hb2⟩
 have q1:=(f2.to hb2)
 obtain⟨u1,y1⟩:=q1.cs2
 go_wp2_with fail
 have q2:=((hi1.below hA2).below hb2)
 have l2:=q2.raw
 (with_reducible refine(FT _ ((Int.gcd (x) (y):Int)) _ l2 hlh).mono ?_)
 rintro e w3 ⟨v3,rfl,hi3,hb3⟩
 obtain⟨g3,p3,n3,c3,rfl⟩:=hi3.form
 have a0:=(q1.to hb3)
 obtain⟨c0,e0,d0,f0⟩:=a0.cf2
 have gV:=(((bG.to hA2).to hb2).to hb3)
 obtain⟨t2,u2⟩:=gV.cs2
 go_wp2_with fail
 have yY:=(((((hv.below hA1).below hb1).below hA2).below hb2).below hb3)
 have m2:=(yY.aC a0 rfl rfl (.bool g3) (.slice p3 n3 c3)).raw
 have n2:=(hi3.aC a0 rfl rfl (.bool g3) (.slice p3 n3 c3)).raw
 (with_reducible refine(nH _ _ (x) (-(((Int.gcd (x) (y):Int)))) _ m2 n2 (by omega) hlg hg0).mono ?_)
 rintro e w4 ⟨v4,u4,rfl,hi4,hj4,hb4⟩
 obtain⟨g4,p4,n4,c4,rfl⟩:=hi4.form
 obtain⟨h4,o4,m4,e4,rfl⟩:=hj4.form
 have jW:=(((((cZ.to hA2).to hb2).to hb3).aI (b:=w1.heap.size) (by omega) (.bool g3) (.slice p3 n3 c3)).to hb4)
 obtain⟨x2,z2⟩:=jW.cs2
 have b0:=((a0.store2 (.bool g3) (.slice p3 n3 c3)).to hb4)
 obtain⟨x1,z1⟩:=b0.cs2
 have jZ:=((gV.aI (b:=w1.heap.size) (by omega) (.bool g3) (.slice p3 n3 c3)).to hb4)
 have y0:=(jZ).1
 have e1:=(jW).1
 have lU:=(((((xZ.to hA2).to hb2).to hb3).aI (b:=w1.heap.size) (by omega) (.bool g3) (.slice p3 n3 c3)).to hb4)
 have k1:=(lU).1
 have p0:=(b0).1
 obtain⟨hA3,a3⟩:=bx1 w4 rfl [.bool false,.slice none 0 0] 28
 have z0:=((jZ.to hA3)).1
 have f1:=((jW.to hA3)).1
 have l1:=((lU.to hA3)).1
 have q0:=((b0.to hA3)).1
 go_wp2_with fail
 have DJ:=(((((iT.below hA2).below hb2).below hb3).aC a0 rfl rfl (.bool g3) (.slice p3 n3 c3)).below hb4)
 obtain⟨hA4,g2,h2⟩:=bx2 w4 rfl [.bool g4,.slice p4 n4 c4] 28 [.bool h4,.slice o4 m4 e4] 28
 have o2:=(DJ.below hA4).raw
 have r2:=((hi3.aC a0 rfl rfl (.bool g3) (.slice p3 n3 c3)).below hb4)
 have p2:=(r2.below hA4).raw
 (with_reducible refine(nH _ _ (y) (-(((Int.gcd (x) (y):Int)))) _ o2 p2 (by omega) hlg hg0).mono ?_)
 rintro e w5 ⟨v5,u5,rfl,hi5,hj5,hb5⟩
 obtain⟨g5,p5,n5,c5,rfl⟩:=hi5.form
 obtain⟨h5,o5,m5,e5,rfl⟩:=hj5.form
 have o0:=(g2.to hb5)
 obtain⟨a2,b2⟩:=o0.cs2
 have vK:=((lU.to hA4).to hb5)
 obtain⟨g0,k0,h0,l0,i0,m0,j0,n0⟩:=vK.cf4
 have TI:=((jZ.to hA4).to hb5)
 have a1:=(TI).1
 have a9b:=((jW.to hA4).to hb5)
 have h1:=(a9b).1
 have m1:=(vK).1
 have r1:=((b0.to hA4).to hb5)
 have r0:=(r1).1
 have t0:=(o0).1
 have s1:=(h2.to hb5)
 have v0:=(s1).1
 obtain⟨hA5,b3⟩:=bx1 w5 rfl [.bool false,.slice none 0 0] 28
 have b1:=((TI.to hA5)).1
 have i1:=((a9b.to hA5)).1
 have o1:=((vK.to hA5)).1
 have s0:=((r1.to hA5)).1
 have u0:=((o0.to hA5)).1
 have w0:=((s1.to hA5)).1
 obtain⟨hA6,d3,e3⟩:=bx2 w5 rfl [.bool g5,.slice p5 n5 c5] 28 [.bool h5,.slice o5 m5 e5] 28
 have s2:=((hi4.below hA4).below hb5)
 obtain⟨hA7,f3,h3⟩:=bx2 ((((w5.setCell ⟨w.heap.size+1+1,0,none⟩ (.bool g4)).setCell ⟨w.heap.size+1+1,1,none⟩ (.slice p4 n4 c4)).setCell ⟨w.heap.size+1+1,2,none⟩ (.bool g5)).setCell ⟨w.heap.size+1+1,3,none⟩ (.slice p5 n5 c5)) (by simp:_=w5.heap.size) [.bool g5,.slice p5 n5 c5] 28 [.bool h5,.slice o5 m5 e5] 28
 have t1:=(Below.tr (Below.tr (Below.tr (Below.aC (Below.tr (Below.tr (Below.tr (Below.tr (Below.tr aY hA1) hb1) hA2) hb2) hb3) (b:=w1.heap.size) (by omega) (.bool g3) (.slice p3 n3 c3)) hb4) hA4) hb5)
 go_wp2_with fail
 exact bodyPost_ret (v:=.agg #[.bool g4,.slice p4 n4 c4,.bool g5,.slice p5 n5 c5]) (by simp[results,Tryz.results86,go_sem,x0,d1,j1,c0,e0,d0,f0,y0,e1,k1,p0,z0,f1,l1,q0,a1,h1,m1,r0,t0,v0,b1,i1,o1,s0,u0,w0,g0,k0,h0,l0,i0,m0,j0,n0]) rfl ⟨_,rfl,RQ.mk' ((s2.aP vK rfl rfl rfl rfl (.bool g4) (.slice p4 n4 c4) (.bool g5) (.slice p5 n5 c5)).below hA7) ((hi5.aP vK rfl rfl rfl rfl (.bool g4) (.slice p4 n4 c4) (.bool g5) (.slice p5 n5 c5)).below hA7) HX.out.1 HX.out.2,(Below.tr (Below.aP t1 (b:=w.heap.size+1+1) (by omega) (.bool g4) (.slice p4 n4 c4) (.bool g5) (.slice p5 n5 c5)) hA7)⟩
theorem uX (v u:Value) (x y:Int) (w:World) (hv:bW w v x) (hu:bW w u y) (hl:isz x<=400000000) (hl2:isz y<=400000000) (hd:y≠0) :
  Calls Tryz.prog 86 #[v,u] w (GQ (Rat.divInt x y) w):=by
 rcases Int.lt_trichotomy y 0 with h|h|h
 ·exact RJ v u x y w hv hu hl hl2 h
 ·exact absurd h hd
 ·exact LU v u x y w hv hu hl hl2 h
end Go.Proofs.YtidfgdchcpmnfaaGreat
