/-
  Lemmas for the theorem vrounds_holds, part 28 of 33.
-/
import Derived.Test.YtidfgdchcpmnfaaGreatRd06
import Derived.Test.YtidfgdchcpmnfaaGreatRd10
import Derived.Test.YtidfgdchcpmnfaaGreatRd20
import Derived.Test.YtidfgdchcpmnfaaGreatRd23
import Derived.Test.YtidfgdchcpmnfaaGreatRd27
namespace Go.Proofs.YtidfgdchcpmnfaaGreat
open Go.RowKit
set_option maxRecDepth 100000
set_option maxHeartbeats 4000000
set_option linter.unusedSimpArgs false
set_option linter.unusedVariables false
theorem a1s (v u:Value) (x y:Int) (w:World) (hv:bW w v x) (hu:bW w u y) (hl:isz x<=400000000) (hl2:isz y<=400000000) (hd:y≠0) :
  Calls Tryz.prog 97 #[v,u] w (GQC (Rat.divInt x y) 0 w):=by
 obtain⟨b,p,n,c,rfl⟩:=hv.form
 obtain⟨d,o,m,e,rfl⟩:=hu.form
 have LJ:(sgn y==0)=false:=by have:=JK hd;simpa using this
 have aY:Below w.heap.size w w:=Below.refl _ _
 go_enter Tryz.func97,Tryz.ntmps97
 go_wp2_with fail
 obtain⟨hA1,j0,k0,l0⟩:=bx3 w rfl [.bool b,.slice p n c] 28 [.bool d,.slice o m e] 28 [.bool false,.slice none 0 0,.bool false,.slice none 0 0] 30
 have m0:=(hu.below hA1).raw
 (with_reducible refine(nI _ (y) _ m0 (by omega)).mono ?_)
 rintro e w1 ⟨rfl,hb1⟩
 have bG:=(j0.to hb1)
 obtain⟨p0,q0⟩:=bG.cs2
 have cZ:=(k0.to hb1)
 obtain⟨r0,s0⟩:=cZ.cs2
 go_wp2_with fail
 have nN:=((hv.below hA1).below hb1)
 have n0:=nN
 have iT:=((hu.below hA1).below hb1)
 have o0:=iT
 (with_reducible refine(uX _ _ (x) (y) _ n0 o0 hl hl2 hd).mono ?_)
 rintro e w2 ⟨v2,rfl,hi2,hb2⟩
 obtain⟨g2,p2,n2,c2,h2,o2,m2,e2,rfl⟩:=hi2.form
 have kR:=((l0.to hb1).to hb2)
 obtain⟨a0,e0,b0,f0,c0,g0,d0,h0⟩:=kR.cf4
 have i0:=(Below.tr (Below.tr (Below.tr aY hA1) hb1) hb2)
 go_wp2_with fail
 exact bodyPost_ret (v:=.tuple #[.agg #[.bool g2,.slice p2 n2 c2,.bool h2,.slice o2 m2 e2],.int .i64 0]) (by simp[results,Tryz.results97,go_sem,a0,e0,b0,f0,c0,g0,d0,h0]) rfl ⟨_,rfl,(hi2.aP kR rfl rfl rfl rfl (.bool g2) (.slice p2 n2 c2) (.bool h2) (.slice o2 m2 e2)),(Below.aP i0 (b:=w.heap.size+1+1) (by omega) (.bool g2) (.slice p2 n2 c2) (.bool h2) (.slice o2 m2 e2))⟩
theorem a0N {x:Int} (h0:-9223372036854775808<=x) (h1:x<=9223372036854775807):isz x<=400000000 :=
 Nat.le_trans (qR (k:=3) (by rw[bI];omega)) (by omega)
theorem a9o (i k:Int) (w:World) (h0:-9223372036854775808<=i) (h1:i<=9223372036854775807) (h2:-9223372036854775808<=k) (h3:k<=9223372036854775807) (hk:k≠0) :
  Calls Tryz.prog 47 #[.int .i64 i,.int .i64 k] w (GQC (Rat.divInt i k) 0 w):=by
 have hz1:=a0N h0 h1
 have hz2:=a0N h2 h3
 have aY:Below w.heap.size w w:=Below.refl _ _
 go_enter Tryz.func47,Tryz.ntmps47
 go_wp2_with fail
 (with_reducible refine(sW _ _ (by omega) (by omega)).mono ?_)
 rintro e w1 ⟨v1,rfl,hi1,hb1⟩
 obtain⟨g1,p1,n1,c1,rfl⟩:=hi1.form
 go_wp2_with fail
 (with_reducible refine(sW _ _ (by omega) (by omega)).mono ?_)
 rintro e w2 ⟨v2,rfl,hi2,hb2⟩
 obtain⟨g2,p2,n2,c2,rfl⟩:=hi2.form
 go_wp2_with fail
 have n0:=(hi1.below hb2)
 have l0:=n0
 have m0:=hi2
 (with_reducible refine(a1s _ _ (i) (k) _ l0 m0 hz1 hz2 hk).mono ?_)
 rintro e w3 ⟨v3,rfl,hi3,hb3⟩
 obtain⟨g3,p3,n3,c3,h3,o3,m3,e3,rfl⟩:=hi3.form
 obtain⟨hA1,k0⟩:=bx1 w rfl [.bool false,.slice none 0 0,.bool false,.slice none 0 0] 30
 have gV:=(((k0.to hb1).to hb2).to hb3)
 obtain⟨a0,e0,b0,f0,c0,g0,d0,i0⟩:=gV.cf4
 have j0:=(Below.tr (Below.tr (Below.tr (Below.tr aY hA1) hb1) hb2) hb3)
 go_wp2_with fail
 exact bodyPost_ret (v:=.tuple #[.agg #[.bool g3,.slice p3 n3 c3,.bool h3,.slice o3 m3 e3],.int .i64 0]) (by simp[results,Tryz.results47,go_sem,a0,e0,b0,f0,c0,g0,d0,i0]) rfl ⟨_,rfl,(hi3.aP gV rfl rfl rfl rfl (.bool g3) (.slice p3 n3 c3) (.bool h3) (.slice o3 m3 e3)),(Below.aP j0 (b:=w.heap.size) (by omega) (.bool g3) (.slice p3 n3 c3) (.bool h3) (.slice o3 m3 e3))⟩
theorem wV (v:Value) (q:Rat) (w:World) (fa:RQ w v q) (hl:rsz q<=999999999) :
  Calls Tryz.prog 22 #[v] w (fun e w'=>e=.returned (.int .i64 (sgn q.num))/\Below w.heap.size w w'):=by
 obtain⟨b,p,n,c,d,o,m,e,rfl⟩:=fa.form
 have hb1:=dA q
 have hb2:=bY q
 have b0:=KF
 have aY:Below w.heap.size w w:=Below.refl _ _
 go_enter Tryz.func22,Tryz.ntmps22
 go_wp2_with fail
 obtain⟨hA1,e0⟩:=bx1 w rfl [.bool b,.slice p n c,.bool d,.slice o m e] 30
 have c0:=(fa.below hA1)
 (with_reducible refine(iY _ (q) _ c0 (by omega)).mono ?_)
 rintro e w1 ⟨v1,rfl,hi1,hb1⟩
 obtain⟨g1,p1,n1,c1,h1,o1,m1,e1,rfl⟩:=hi1.form
 go_wp2_with fail
 have d0:=hi1.num.raw
 (with_reducible refine(nI _ (((q)).num) _ d0 (by omega)).mono ?_)
 rintro e w2 ⟨rfl,hb2⟩
 have a0:=(Below.tr (Below.tr (Below.tr aY hA1) hb1) hb2)
 go_wp2_with fail
 go_ret
 exact⟨rfl,a0⟩
theorem JJ (v:Value) (q:Rat) (w:World) (fa:RQ w v q) (hl:rsz q<=999999999) :
  Calls Tryz.prog 111 #[v] w (GQ (-q) w):=by
 obtain⟨b,p,n,c,d,o,m,e,rfl⟩:=fa.form
 have hb1:=dA q
 have hb2:=bY q
 have aY:Below w.heap.size w w:=Below.refl _ _
 go_enter Tryz.func111,Tryz.ntmps111
 go_wp2_with fail
 obtain⟨hA1,m0,n0⟩:=bx2 w rfl [.bool b,.slice p n c,.bool d,.slice o m e] 30 [.bool false,.slice none 0 0,.bool false,.slice none 0 0] 30
 have p0:=(fa.below hA1)
 (with_reducible refine(iY _ (q) _ p0 (by omega)).mono ?_)
 rintro e w1 ⟨v1,rfl,hi1,hb1⟩
 obtain⟨g1,p1,n1,c1,h1,o1,m1,e1,rfl⟩:=hi1.form
 have bG:=(m0.to hb1)
 have i0:=(bG).1
 have cZ:=(n0.to hb1)
 have j0:=(cZ).1
 go_wp2_with fail
 obtain⟨hA2,o0⟩:=bx1 w1 rfl [.bool g1,.slice p1 n1 c1,.bool h1,.slice o1 m1 e1] 30
 have MX:=(o0.drew).bs4
 have k0:dB (w.heap.size+1) (BS4 w1.heap.size (.bool g1) (.slice p1 n1 c1) (.bool h1) (.slice o1 m1 e1)):=(BS4.hc (by omega))
 have tk1:True:=trivial
 go_region_held3 (BS4 w1.heap.size (.bool g1) (.slice p1 n1 c1) (.bool h1) (.slice o1 m1 e1)) (first|with_reducible exact MX|with_reducible exact fU.go BS4.hk (by assumption) (by assumption)|with_reducible exact dB.go4 k0 (by assumption)|(simp;done))
  (first
   | (((have:=tk1);clear tk1;have q0:=(hi1.below hA2).drew.num.raw;go_at_call 126;(with_reducible refine(FT _ (((q)).num) _ q0 (by omega)).mono ?_);rintro e w2 ⟨v2,rfl,hi2,hb2⟩;obtain⟨g2,p2,n2,c2,rfl⟩:=hi2.form;have bH:=((cZ.to hA2).drew.to hb2);obtain⟨a0,e0,b0,f0,c0,g0,d0,h0⟩:=bH.cf4)))
 have r0:=((hi1.below hA2).drew.below hb2)
 have l0:=(Below.tr (Below.tr (Below.tr (Below.tr aY hA1) hb1) hA2).drew hb2)
 go_wp2_with fail
 exact bodyPost_ret (v:=.agg #[.bool g2,.slice p2 n2 c2,.bool h1,.slice o1 m1 e1]) (by simp[results,Tryz.results111,go_sem,i0,j0,a0,e0,b0,f0,c0,g0,d0,h0]) rfl ⟨_,rfl,RQ.mk' (hi2.aP bH rfl rfl rfl rfl (.bool g2) (.slice p2 n2 c2) (.bool h1) (.slice o1 m1 e1)) (r0.aP bH rfl rfl rfl rfl (.bool g2) (.slice p2 n2 c2) (.bool h1) (.slice o1 m1 e1)).den (zL q).symm (by rw[KQ]),(Below.aP l0 (b:=w.heap.size+1) (by omega) (.bool g2) (.slice p2 n2 c2) (.bool h1) (.slice o1 m1 e1))⟩
theorem a6o (v:Value) (q:Rat) (w:World) (fa:RQ w v q) (hl:rsz q<=999999999) (hq:q<0) :
  Calls Tryz.prog 94 #[v] w (GQ (jJ q) w):=by
 obtain⟨b,p,n,c,d,o,m,e,rfl⟩:=fa.form
 have hb1:=dA q
 have hb2:=bY q
 have HX:Hid (jJ q=-q):=by unfold Hid jJ;rw[if_pos hq]
 have hs0:q.num<0:=by have:=Rat.lt_iff q 0;simp at this;exact this.1 hq
 have hsg:decide (sgn q.num<0)=true:=by rw[BJ hs0];rfl
 clear hq hs0
 have aY:Below w.heap.size w w:=Below.refl _ _
 go_enter Tryz.func94,Tryz.ntmps94
 go_wp2_with fail
 obtain⟨hA1,j0,k0⟩:=bx2 w rfl [.bool b,.slice p n c,.bool d,.slice o m e] 30 [.bool false,.slice none 0 0,.bool false,.slice none 0 0] 30
 have l0:=(fa.below hA1)
 (with_reducible refine(wV _ (q) _ l0 (by omega)).mono ?_)
 rintro e w1 ⟨rfl,hb1⟩
 have bG:=(j0.to hb1)
 obtain⟨n0,o0,p0,q0⟩:=bG.cs4
 go_wp2_with fail
 have a2r:=((fa.below hA1).below hb1)
 have m0:=a2r
 (with_reducible refine(JJ _ (q) _ m0 (by omega)).mono ?_)
 rintro e w2 ⟨v2,rfl,hi2,hb2⟩
 obtain⟨g2,p2,n2,c2,h2,o2,m2,e2,rfl⟩:=hi2.form
 have bH:=((k0.to hb1).to hb2)
 obtain⟨a0,e0,b0,f0,c0,g0,d0,h0⟩:=bH.cf4
 have i0:=(Below.tr (Below.tr (Below.tr aY hA1) hb1) hb2)
 go_wp2_with fail
 exact bodyPost_ret (v:=.agg #[.bool g2,.slice p2 n2 c2,.bool h2,.slice o2 m2 e2]) (by simp[results,Tryz.results94,go_sem,a0,e0,b0,f0,c0,g0,d0,h0]) rfl ⟨_,rfl,by rw[HX.out];exact(hi2.aP bH rfl rfl rfl rfl (.bool g2) (.slice p2 n2 c2) (.bool h2) (.slice o2 m2 e2)),(Below.aP i0 (b:=w.heap.size+1) (by omega) (.bool g2) (.slice p2 n2 c2) (.bool h2) (.slice o2 m2 e2))⟩
theorem a6p (v:Value) (q:Rat) (w:World) (fa:RQ w v q) (hl:rsz q<=999999999) (hq:¬ q<0) :
  Calls Tryz.prog 94 #[v] w (GQ (jJ q) w):=by
 obtain⟨b,p,n,c,d,o,m,e,rfl⟩:=fa.form
 have hb1:=dA q
 have hb2:=bY q
 have HX:Hid (jJ q=q):=by unfold Hid jJ;rw[if_neg hq]
 have hs0:¬ q.num<0:=by have:=Rat.lt_iff q 0;simp at this;exact fun h=>hq (this.2 h)
 have hsg:decide (sgn q.num<0)=false:=by have:=b6m hs0;simpa using this
 clear hq hs0
 have aY:Below w.heap.size w w:=Below.refl _ _
 go_enter Tryz.func94,Tryz.ntmps94
 go_wp2_with fail
 obtain⟨hA1,j0,k0⟩:=bx2 w rfl [.bool b,.slice p n c,.bool d,.slice o m e] 30 [.bool false,.slice none 0 0,.bool false,.slice none 0 0] 30
 have l0:=(fa.below hA1)
 (with_reducible refine(wV _ (q) _ l0 (by omega)).mono ?_)
 rintro e w1 ⟨rfl,hb1⟩
 have bG:=(j0.to hb1)
 obtain⟨n0,o0,p0,q0⟩:=bG.cs4
 go_wp2_with fail
 have a2r:=((fa.below hA1).below hb1)
 have m0:=a2r
 (with_reducible refine(iY _ (q) _ m0 (by omega)).mono ?_)
 rintro e w2 ⟨v2,rfl,hi2,hb2⟩
 obtain⟨g2,p2,n2,c2,h2,o2,m2,e2,rfl⟩:=hi2.form
 have bH:=((k0.to hb1).to hb2)
 obtain⟨a0,e0,b0,f0,c0,g0,d0,h0⟩:=bH.cf4
 have i0:=(Below.tr (Below.tr (Below.tr aY hA1) hb1) hb2)
 go_wp2_with fail
 exact bodyPost_ret (v:=.agg #[.bool g2,.slice p2 n2 c2,.bool h2,.slice o2 m2 e2]) (by simp[results,Tryz.results94,go_sem,a0,e0,b0,f0,c0,g0,d0,h0]) rfl ⟨_,rfl,by rw[HX.out];exact(hi2.aP bH rfl rfl rfl rfl (.bool g2) (.slice p2 n2 c2) (.bool h2) (.slice o2 m2 e2)),(Below.aP i0 (b:=w.heap.size+1) (by omega) (.bool g2) (.slice p2 n2 c2) (.bool h2) (.slice o2 m2 e2))⟩
theorem a6n (v:Value) (q:Rat) (w:World) (fa:RQ w v q) (hl:rsz q<=999999999) :
  Calls Tryz.prog 94 #[v] w (GQ (jJ q) w):=by
 by_cases h:q<0
 ·exact a6o v q w fa hl h
 ·exact a6p v q w fa hl h
theorem a1q (v:Value) (q:Rat) (w:World) (fa:RQ w v q) (hl:rsz q<=400000000) :
  Calls Tryz.prog 95 #[v] w (kV q.floor w):=by
 obtain⟨b,p,n,c,d,o,m,e,rfl⟩:=fa.form
 have hb1:=dA q
 have hb2:=bY q
 have hd0:(q.den:Int)≠0:=by have:=q.den_nz;omega
 have HX:Hid (q.num.fdiv (q.den:Int)=q.floor):=by unfold Hid;rw[Int.fdiv_eq_ediv_of_nonneg _ (by omega)];exact JG q
 have aY:Below w.heap.size w w:=Below.refl _ _
 go_enter Tryz.func95,Tryz.ntmps95
 go_wp2_with fail
 obtain⟨hA1,o0,p0⟩:=bx2 w rfl [.bool b,.slice p n c,.bool d,.slice o m e] 30 [.bool false,.slice none 0 0] 28
 have r0:=(fa.below hA1)
 (with_reducible refine(iY _ (q) _ r0 (by omega)).mono ?_)
 rintro e w1 ⟨v1,rfl,hi1,hb1⟩
 obtain⟨g1,p1,n1,c1,h1,o1,m1,e1,rfl⟩:=hi1.form
 have bG:=(o0.to hb1)
 have g0:=(bG).1
 have cZ:=(p0.to hb1)
 have j0:=(cZ).1
 go_wp2_with fail
 obtain⟨hA2,q0⟩:=bx1 w1 rfl [.bool g1,.slice p1 n1 c1,.bool h1,.slice o1 m1 e1] 30
 have s0:=(hi1.below hA2).num.raw
 have t0:=(hi1.below hA2).den.raw
 (with_reducible refine(nH _ _ (((q)).num) ((((q)).den:Int)) _ s0 t0 (by omega) (by omega) hd0).mono ?_)
 rintro e w2 ⟨v2,u2,rfl,hi2,hj2,hb2⟩
 obtain⟨g2,p2,n2,c2,rfl⟩:=hi2.form
 obtain⟨h2,o2,m2,e2,rfl⟩:=hj2.form
 have bH:=((cZ.to hA2).to hb2)
 obtain⟨a0,c0,b0,d0⟩:=bH.cf2
 have bV:=((bG.to hA2).to hb2)
 have h0:=(bV).1
 have k0:=(bH).1
 have m0:=(q0.to hb2)
 have e0:=(m0).1
 obtain⟨hA3,u0⟩:=bx1 w2 rfl [.bool false,.slice none 0 0] 28
 have i0:=((bV.to hA3)).1
 have l0:=((bH.to hA3)).1
 have f0:=((m0.to hA3)).1
 obtain⟨hA4,v0,w0⟩:=bx2 w2 rfl [.bool g2,.slice p2 n2 c2] 28 [.bool h2,.slice o2 m2 e2] 28
 obtain⟨hA5,x0,y0⟩:=bx2 ((w2.setCell ⟨w.heap.size+1,0,none⟩ (.bool g2)).setCell ⟨w.heap.size+1,1,none⟩ (.slice p2 n2 c2)) (by simp:_=w2.heap.size) [.bool g2,.slice p2 n2 c2] 28 [.bool h2,.slice o2 m2 e2] 28
 have n0:=(Below.tr (Below.tr (Below.tr (Below.tr aY hA1) hb1) hA2) hb2)
 go_wp2_with fail
 exact bodyPost_ret (v:=.agg #[.bool g2,.slice p2 n2 c2]) (by simp[results,Tryz.results95,go_sem,g0,j0,h0,k0,e0,i0,l0,f0,a0,c0,b0,d0]) rfl ⟨_,rfl,dK ((hi2.aC bH rfl rfl (.bool g2) (.slice p2 n2 c2)).below hA5) HX.out,(Below.tr (Below.aC n0 (b:=w.heap.size+1) (by omega) (.bool g2) (.slice p2 n2 c2)) hA5)⟩
theorem VJ (v u:Value) (x y:Rat) (w:World) (fa:RQ w v x) (fb:RQ w u y) (hl:rsz x<=190000000) (hl2:rsz y<=190000000) :
  Calls Tryz.prog 43 #[v,u] w (GQ (x+y) w):=by
 obtain⟨b,p,n,c,d,o,m,e,rfl⟩:=fa.form
 obtain⟨f,i,j,k,g,r,t,a,rfl⟩:=fb.form
 have hb1:=dA x
 have hb2:=bY x
 have hb3:=dA y
 have hb4:=bY y
 have hc1:=dR x.num y.den
 have hc2:=dR y.num x.den
 have hc3:=MF (x.num*y.den) (y.num*x.den)
 have hc4:=dR x.den y.den
 have HX:=Lib.hid (YG x y)
 have hd0:=wH x y
 have aY:Below w.heap.size w w:=Below.refl _ _
 go_enter Tryz.func43,Tryz.ntmps43
 go_wp2_with fail
 obtain⟨hA1,v0,w0,x0⟩:=bx3 w rfl [.bool b,.slice p n c,.bool d,.slice o m e] 30 [.bool f,.slice i j k,.bool g,.slice r t a] 30 [.bool false,.slice none 0 0,.bool false,.slice none 0 0] 30
 have a1:=(fa.below hA1)
 (with_reducible refine(iY _ (x) _ a1 (by omega)).mono ?_)
 rintro e w1 ⟨v1,rfl,hi1,hb1⟩
 obtain⟨g1,p1,n1,c1,h1,o1,m1,e1,rfl⟩:=hi1.form
 have cZ:=(w0.to hb1)
 obtain⟨a2,b2,d2,f2⟩:=cZ.cs4
 have bG:=(v0.to hb1)
 have j0:=(bG).1
 have l0:=(cZ).1
 have xZ:=(x0.to hb1)
 have n0:=(xZ).1
 go_wp2_with fail
 have a0k:=((fb.below hA1).below hb1)
 obtain⟨hA2,y0⟩:=bx1 w1 rfl [.bool g1,.slice p1 n1 c1,.bool h1,.slice o1 m1 e1] 30
 have b1:=(a0k.below hA2)
 (with_reducible refine(iY _ (y) _ b1 (by omega)).mono ?_)
 rintro e w2 ⟨v2,rfl,hi2,hb2⟩
 obtain⟨g2,p2,n2,c2,h2,o2,m2,e2,rfl⟩:=hi2.form
 have bV:=((bG.to hA2).to hb2)
 have k0:=(bV).1
 have bH:=((cZ.to hA2).to hb2)
 have m0:=(bH).1
 have kR:=((xZ.to hA2).to hb2)
 have o0:=(kR).1
 have s0:=(y0.to hb2)
 have i0:=(s0).1
 go_wp2_with fail
 obtain⟨hA3,z0⟩:=bx1 w2 rfl [.bool g2,.slice p2 n2 c2,.bool h2,.slice o2 m2 e2] 30
 have a2a:=(aN.mk ((s0.to hA3).drew).bs4 (z0.drew).bs4)
 have t0:dB (w.heap.size+1+1) (aN (BS4 w1.heap.size (.bool g1) (.slice p1 n1 c1) (.bool h1) (.slice o1 m1 e1)) (BS4 w2.heap.size (.bool g2) (.slice p2 n2 c2) (.bool h2) (.slice o2 m2 e2))):=(aN.hc (BS4.hc (by omega)) (BS4.hc (by omega)))
 have tk1:True:=trivial
 have tk2:True:=trivial
 have tk3:True:=trivial
 have tk4:True:=trivial
 have tk5:True:=trivial
 go_region_held3 (aN (BS4 w1.heap.size (.bool g1) (.slice p1 n1 c1) (.bool h1) (.slice o1 m1 e1)) (BS4 w2.heap.size (.bool g2) (.slice p2 n2 c2) (.bool h2) (.slice o2 m2 e2))) (first|with_reducible exact a2a|with_reducible exact fU.go (aN.hk BS4.hk BS4.hk) (by assumption) (by assumption)|with_reducible exact dB.go4 t0 (by assumption)|(simp;done))
  (first
   | (((have:=tk1);clear tk1;have p0:=((hi1.below hA2).below hb2);have d1:=(p0.below hA3).drew.num.raw;have f1:=(hi2.below hA3).drew.den.raw;go_at_call 88;(with_reducible refine(lH _ _ (((x)).num) ((((y)).den:Int)) _ d1 f1 (by omega) (by omega)).mono ?_);rintro e w3 ⟨v3,rfl,hi3,hb3⟩;obtain⟨g3,p3,n3,c3,rfl⟩:=hi3.form))
   | (((have:=tk2);clear tk2;have r0:=((hi2.below hA3).drew.below hb3);have i1:=r0.num.raw;have q0:=((p0.below hA3).drew.below hb3);have j1:=q0.den.raw;go_at_call 88;(with_reducible refine(lH _ _ (((y)).num) ((((x)).den:Int)) _ i1 j1 (by omega) (by omega)).mono ?_);rintro e w4 ⟨v4,rfl,hi4,hb4⟩;obtain⟨g4,p4,n4,c4,rfl⟩:=hi4.form))
   | (((have:=tk3);clear tk3;have y1:=(hi3.below hb4);have k1:=y1.raw;have l1:=hi4.raw;go_at_call 87;(with_reducible refine(a1f _ _ ((((x)).num)*((((y)).den:Int))) ((((y)).num)*((((x)).den:Int))) _ k1 l1 (by omega) (by omega)).mono ?_);rintro e w5 ⟨v5,rfl,hi5,hb5⟩;obtain⟨g5,p5,n5,c5,rfl⟩:=hi5.form))
   | (((have:=tk4);clear tk4;have u1:=((q0.below hb4).below hb5);have q1:=u1.den.raw;have x1:=((r0.below hb4).below hb5);have r1:=x1.den.raw;go_at_call 88;(with_reducible refine(lH _ _ ((((x)).den:Int)) ((((y)).den:Int)) _ q1 r1 (by omega) (by omega)).mono ?_);rintro e w6 ⟨v6,rfl,hi6,hb6⟩;obtain⟨g6,p6,n6,c6,rfl⟩:=hi6.form))
   | (((have:=tk5);clear tk5;have z1:=(hi5.below hb6);have s1:=z1;have t1:=hi6;go_at_call 86;(with_reducible refine(uX _ _ (((((x)).num)*((((y)).den:Int)))+((((y)).num)*((((x)).den:Int)))) (((((x)).den:Int))*((((y)).den:Int))) _ s1 t1 (by omega) (by omega) hd0).mono ?_);rintro e w7 ⟨v7,rfl,hi7,hb7⟩;obtain⟨g7,p7,n7,c7,h7,o7,m7,e7,rfl⟩:=hi7.form;have a9c:=((((((kR.to hA3).drew.to hb3).to hb4).to hb5).to hb6).to hb7);obtain⟨a0,e0,b0,f0,c0,g0,d0,h0⟩:=a9c.cf4)))
 have u0:=(Below.tr (Below.tr (Below.tr (Below.tr (Below.tr (Below.tr (Below.tr (Below.tr (Below.tr (Below.tr aY hA1) hb1) hA2) hb2) hA3).drew hb3) hb4) hb5) hb6) hb7)
 go_wp2_with fail
 exact bodyPost_ret (v:=.agg #[.bool g7,.slice p7 n7 c7,.bool h7,.slice o7 m7 e7]) (by simp[results,Tryz.results43,go_sem,j0,l0,n0,k0,m0,o0,i0,a0,e0,b0,f0,c0,g0,d0,h0]) rfl ⟨_,rfl,by rw[<-HX.out];exact(hi7.aP a9c rfl rfl rfl rfl (.bool g7) (.slice p7 n7 c7) (.bool h7) (.slice o7 m7 e7)),(Below.aP u0 (b:=w.heap.size+1+1) (by omega) (.bool g7) (.slice p7 n7 c7) (.bool h7) (.slice o7 m7 e7))⟩
theorem a6w (v u:Value) (x y:Rat) (w:World) (fa:RQ w v x) (fb:RQ w u y) (hl:rsz x<=190000000) (hl2:rsz y<=190000000) :
  Calls Tryz.prog 44 #[v,u] w (GQ (x*y) w):=by
 obtain⟨b,p,n,c,d,o,m,e,rfl⟩:=fa.form
 obtain⟨f,i,j,k,g,r,t,a,rfl⟩:=fb.form
 have hb1:=dA x
 have hb2:=bY x
 have hb3:=dA y
 have hb4:=bY y
 have hc1:=dR x.num y.num
 have hc4:=dR x.den y.den
 have HX:=Lib.hid (YI x y)
 have hd0:=wH x y
 have aY:Below w.heap.size w w:=Below.refl _ _
 go_enter Tryz.func44,Tryz.ntmps44
 go_wp2_with fail
 obtain⟨hA1,t0,u0,v0⟩:=bx3 w rfl [.bool b,.slice p n c,.bool d,.slice o m e] 30 [.bool f,.slice i j k,.bool g,.slice r t a] 30 [.bool false,.slice none 0 0,.bool false,.slice none 0 0] 30
 have y0:=(fa.below hA1)
 (with_reducible refine(iY _ (x) _ y0 (by omega)).mono ?_)
 rintro e w1 ⟨v1,rfl,hi1,hb1⟩
 obtain⟨g1,p1,n1,c1,h1,o1,m1,e1,rfl⟩:=hi1.form
 have cZ:=(u0.to hb1)
 obtain⟨r1,s1,t1,u1⟩:=cZ.cs4
 have bG:=(t0.to hb1)
 have j0:=(bG).1
 have l0:=(cZ).1
 have xZ:=(v0.to hb1)
 have n0:=(xZ).1
 go_wp2_with fail
 have a0k:=((fb.below hA1).below hb1)
 obtain⟨hA2,w0⟩:=bx1 w1 rfl [.bool g1,.slice p1 n1 c1,.bool h1,.slice o1 m1 e1] 30
 have z0:=(a0k.below hA2)
 (with_reducible refine(iY _ (y) _ z0 (by omega)).mono ?_)
 rintro e w2 ⟨v2,rfl,hi2,hb2⟩
 obtain⟨g2,p2,n2,c2,h2,o2,m2,e2,rfl⟩:=hi2.form
 have bV:=((bG.to hA2).to hb2)
 have k0:=(bV).1
 have bH:=((cZ.to hA2).to hb2)
 have m0:=(bH).1
 have kR:=((xZ.to hA2).to hb2)
 have o0:=(kR).1
 have q0:=(w0.to hb2)
 have i0:=(q0).1
 go_wp2_with fail
 obtain⟨hA3,x0⟩:=bx1 w2 rfl [.bool g2,.slice p2 n2 c2,.bool h2,.slice o2 m2 e2] 30
 have a2a:=(aN.mk ((q0.to hA3).drew).bs4 (x0.drew).bs4)
 have r0:dB (w.heap.size+1+1) (aN (BS4 w1.heap.size (.bool g1) (.slice p1 n1 c1) (.bool h1) (.slice o1 m1 e1)) (BS4 w2.heap.size (.bool g2) (.slice p2 n2 c2) (.bool h2) (.slice o2 m2 e2))):=(aN.hc (BS4.hc (by omega)) (BS4.hc (by omega)))
 have tk1:True:=trivial
 have tk2:True:=trivial
 have tk3:True:=trivial
 go_region_held3 (aN (BS4 w1.heap.size (.bool g1) (.slice p1 n1 c1) (.bool h1) (.slice o1 m1 e1)) (BS4 w2.heap.size (.bool g2) (.slice p2 n2 c2) (.bool h2) (.slice o2 m2 e2))) (first|with_reducible exact a2a|with_reducible exact fU.go (aN.hk BS4.hk BS4.hk) (by assumption) (by assumption)|with_reducible exact dB.go4 r0 (by assumption)|(simp;done))
  (first
   | (((have:=tk1);clear tk1;have p0:=((hi1.below hA2).below hb2);have a1:=(p0.below hA3).drew.num.raw;have b1:=(hi2.below hA3).drew.num.raw;go_at_call 88;(with_reducible refine(lH _ _ (((x)).num) (((y)).num) _ a1 b1 (by omega) (by omega)).mono ?_);rintro e w3 ⟨v3,rfl,hi3,hb3⟩;obtain⟨g3,p3,n3,c3,rfl⟩:=hi3.form))
   | (((have:=tk2);clear tk2;have k1:=((p0.below hA3).drew.below hb3);have d1:=k1.den.raw;have l1:=((hi2.below hA3).drew.below hb3);have f1:=l1.den.raw;go_at_call 88;(with_reducible refine(lH _ _ ((((x)).den:Int)) ((((y)).den:Int)) _ d1 f1 (by omega) (by omega)).mono ?_);rintro e w4 ⟨v4,rfl,hi4,hb4⟩;obtain⟨g4,p4,n4,c4,rfl⟩:=hi4.form))
   | (((have:=tk3);clear tk3;have q1:=(hi3.below hb4);have i1:=q1;have j1:=hi4;go_at_call 86;(with_reducible refine(uX _ _ ((((x)).num)*(((y)).num)) (((((x)).den:Int))*((((y)).den:Int))) _ i1 j1 (by omega) (by omega) hd0).mono ?_);rintro e w5 ⟨v5,rfl,hi5,hb5⟩;obtain⟨g5,p5,n5,c5,h5,o5,m5,e5,rfl⟩:=hi5.form;have vK:=((((kR.to hA3).drew.to hb3).to hb4).to hb5);obtain⟨a0,e0,b0,f0,c0,g0,d0,h0⟩:=vK.cf4)))
 have s0:=(Below.tr (Below.tr (Below.tr (Below.tr (Below.tr (Below.tr (Below.tr (Below.tr aY hA1) hb1) hA2) hb2) hA3).drew hb3) hb4) hb5)
 go_wp2_with fail
 exact bodyPost_ret (v:=.agg #[.bool g5,.slice p5 n5 c5,.bool h5,.slice o5 m5 e5]) (by simp[results,Tryz.results44,go_sem,j0,l0,n0,k0,m0,o0,i0,a0,e0,b0,f0,c0,g0,d0,h0]) rfl ⟨_,rfl,by rw[<-HX.out];exact(hi5.aP vK rfl rfl rfl rfl (.bool g5) (.slice p5 n5 c5) (.bool h5) (.slice o5 m5 e5)),(Below.aP s0 (b:=w.heap.size+1+1) (by omega) (.bool g5) (.slice p5 n5 c5) (.bool h5) (.slice o5 m5 e5))⟩
theorem a9j (v u:Value) (x y:Rat) (w:World) (fa:RQ w v x) (fb:RQ w u y) (hl:rsz x<=190000000) (hl2:rsz y<=190000000) (hy:y≠0) :
  Calls Tryz.prog 74 #[v,u] w (GQC (x / y) 0 w):=by
 obtain⟨b,p,n,c,d,o,m,e,rfl⟩:=fa.form
 obtain⟨f,i,j,k,g,r,t,a,rfl⟩:=fb.form
 have hb1:=dA x
 have hb2:=bY x
 have hb3:=dA y
 have hb4:=bY y
 have hc1:=dR x.num y.den
 have hc4:=dR x.den y.num
 have HX:=Lib.hid (YH x y)
 have hn0:y.num≠0:=fun h=>hy ((wQ y).1 h)
 have hd0:(x.den:Int)*y.num≠0:=fun h=>by
  have:=x.den_nz
  rcases Int.mul_eq_zero.1 h with h|h<;>omega
 clear hy hn0
 have aY:Below w.heap.size w w:=Below.refl _ _
 go_enter Tryz.func74,Tryz.ntmps74
 go_wp2_with fail
 obtain⟨hA1,t0,u0,v0⟩:=bx3 w rfl [.bool b,.slice p n c,.bool d,.slice o m e] 30 [.bool f,.slice i j k,.bool g,.slice r t a] 30 [.bool false,.slice none 0 0,.bool false,.slice none 0 0] 30
 have y0:=(fa.below hA1)
 (with_reducible refine(iY _ (x) _ y0 (by omega)).mono ?_)
 rintro e w1 ⟨v1,rfl,hi1,hb1⟩
 obtain⟨g1,p1,n1,c1,h1,o1,m1,e1,rfl⟩:=hi1.form
 have cZ:=(u0.to hb1)
 obtain⟨r1,s1,t1,u1⟩:=cZ.cs4
 have bG:=(t0.to hb1)
 have j0:=(bG).1
 have l0:=(cZ).1
 have xZ:=(v0.to hb1)
 have n0:=(xZ).1
 go_wp2_with fail
 have a0k:=((fb.below hA1).below hb1)
 obtain⟨hA2,w0⟩:=bx1 w1 rfl [.bool g1,.slice p1 n1 c1,.bool h1,.slice o1 m1 e1] 30
 have z0:=(a0k.below hA2)
 (with_reducible refine(iY _ (y) _ z0 (by omega)).mono ?_)
 rintro e w2 ⟨v2,rfl,hi2,hb2⟩
 obtain⟨g2,p2,n2,c2,h2,o2,m2,e2,rfl⟩:=hi2.form
 have bV:=((bG.to hA2).to hb2)
 have k0:=(bV).1
 have bH:=((cZ.to hA2).to hb2)
 have m0:=(bH).1
 have kR:=((xZ.to hA2).to hb2)
 have o0:=(kR).1
 have q0:=(w0.to hb2)
 have i0:=(q0).1
 go_wp2_with fail
 obtain⟨hA3,x0⟩:=bx1 w2 rfl [.bool g2,.slice p2 n2 c2,.bool h2,.slice o2 m2 e2] 30
 have a2a:=(aN.mk ((q0.to hA3).drew).bs4 (x0.drew).bs4)
 have r0:dB (w.heap.size+1+1) (aN (BS4 w1.heap.size (.bool g1) (.slice p1 n1 c1) (.bool h1) (.slice o1 m1 e1)) (BS4 w2.heap.size (.bool g2) (.slice p2 n2 c2) (.bool h2) (.slice o2 m2 e2))):=(aN.hc (BS4.hc (by omega)) (BS4.hc (by omega)))
 have tk1:True:=trivial
 have tk2:True:=trivial
 have tk3:True:=trivial
 go_region_held3 (aN (BS4 w1.heap.size (.bool g1) (.slice p1 n1 c1) (.bool h1) (.slice o1 m1 e1)) (BS4 w2.heap.size (.bool g2) (.slice p2 n2 c2) (.bool h2) (.slice o2 m2 e2))) (first|with_reducible exact a2a|with_reducible exact fU.go (aN.hk BS4.hk BS4.hk) (by assumption) (by assumption)|with_reducible exact dB.go4 r0 (by assumption)|(simp;done))
  (first
   | (((have:=tk1);clear tk1;have p0:=((hi1.below hA2).below hb2);have a1:=(p0.below hA3).drew.num.raw;have b1:=(hi2.below hA3).drew.den.raw;go_at_call 88;(with_reducible refine(lH _ _ (((x)).num) ((((y)).den:Int)) _ a1 b1 (by omega) (by omega)).mono ?_);rintro e w3 ⟨v3,rfl,hi3,hb3⟩;obtain⟨g3,p3,n3,c3,rfl⟩:=hi3.form))
   | (((have:=tk2);clear tk2;have k1:=((p0.below hA3).drew.below hb3);have d1:=k1.den.raw;have l1:=((hi2.below hA3).drew.below hb3);have f1:=l1.num.raw;go_at_call 88;(with_reducible refine(lH _ _ ((((x)).den:Int)) (((y)).num) _ d1 f1 (by omega) (by omega)).mono ?_);rintro e w4 ⟨v4,rfl,hi4,hb4⟩;obtain⟨g4,p4,n4,c4,rfl⟩:=hi4.form))
   | (((have:=tk3);clear tk3;have q1:=(hi3.below hb4);have i1:=q1;have j1:=hi4;go_at_call 97;(with_reducible refine(a1s _ _ ((((x)).num)*((((y)).den:Int))) (((((x)).den:Int))*(((y)).num)) _ i1 j1 (by omega) (by omega) hd0).mono ?_);rintro e w5 ⟨v5,rfl,hi5,hb5⟩;obtain⟨g5,p5,n5,c5,h5,o5,m5,e5,rfl⟩:=hi5.form;have vK:=((((kR.to hA3).drew.to hb3).to hb4).to hb5);obtain⟨a0,e0,b0,f0,c0,g0,d0,h0⟩:=vK.cf4)))
 have s0:=(Below.tr (Below.tr (Below.tr (Below.tr (Below.tr (Below.tr (Below.tr (Below.tr aY hA1) hb1) hA2) hb2) hA3).drew hb3) hb4) hb5)
 go_wp2_with fail
 exact bodyPost_ret (v:=.tuple #[.agg #[.bool g5,.slice p5 n5 c5,.bool h5,.slice o5 m5 e5],.int .i64 0]) (by simp[results,Tryz.results74,go_sem,j0,l0,n0,k0,m0,o0,i0,a0,e0,b0,f0,c0,g0,d0,h0]) rfl ⟨_,rfl,by rw[<-HX.out];exact(hi5.aP vK rfl rfl rfl rfl (.bool g5) (.slice p5 n5 c5) (.bool h5) (.slice o5 m5 e5)),(Below.aP s0 (b:=w.heap.size+1+1) (by omega) (.bool g5) (.slice p5 n5 c5) (.bool h5) (.slice o5 m5 e5))⟩
theorem a6D (v u:Value) (x y:Rat) (w:World) (fa:RQ w v x) (fb:RQ w u y) (hl:rsz x<=190000000) (hl2:rsz y<=190000000) :
  Calls Tryz.prog 78 #[v,u] w (GQ (x-y) w):=by
 obtain⟨b,p,n,c,d,o,m,e,rfl⟩:=fa.form
 obtain⟨f,i,j,k,g,r,t,a,rfl⟩:=fb.form
 have hb1:=dA x
 have hb2:=bY x
 have hb3:=dA y
 have hb4:=bY y
 have hc5:rsz (-y)<=190000000:=by rw[FV];exact hl2
 have aY:Below w.heap.size w w:=Below.refl _ _
 go_enter Tryz.func78,Tryz.ntmps78
 go_wp2_with fail
 obtain⟨hA1,l0,m0,i0⟩:=bx3 w rfl [.bool b,.slice p n c,.bool d,.slice o m e] 30 [.bool f,.slice i j k,.bool g,.slice r t a] 30 [.bool false,.slice none 0 0,.bool false,.slice none 0 0] 30
 have vV:=(aN.mk (l0.drew).bs4 (aN.mk (m0.drew).bs4 (BN.of (i0.drew))))
 have j0:dB (w.heap.size+1+1) (aN (BS4 w.heap.size (.bool b) (.slice p n c) (.bool d) (.slice o m e)) (aN (BS4 (w.heap.size+1) (.bool f) (.slice i j k) (.bool g) (.slice r t a)) (BN (w.heap.size+1+1)))):=(aN.hc (BS4.hc (by omega)) (aN.hc (BS4.hc (by omega)) BN.hc))
 have tk1:True:=trivial
 have tk2:True:=trivial
 go_region_held3 (aN (BS4 w.heap.size (.bool b) (.slice p n c) (.bool d) (.slice o m e)) (aN (BS4 (w.heap.size+1) (.bool f) (.slice i j k) (.bool g) (.slice r t a)) (BN (w.heap.size+1+1)))) (first|with_reducible exact vV|with_reducible exact fU.go (aN.hk BS4.hk (aN.hk BS4.hk BN.hk)) (by assumption) (by assumption)|with_reducible exact dB.go4 j0 (by assumption)|(simp;done))
  (first
   | (((have:=tk1);clear tk1;have n0:=(fb.below hA1).drew;go_at_call 111;(with_reducible refine(JJ _ (y) _ n0 (by omega)).mono ?_);rintro e w1 ⟨v1,rfl,hi1,hb1⟩;obtain⟨g1,p1,n1,c1,h1,o1,m1,e1,rfl⟩:=hi1.form))
   | (((have:=tk2);clear tk2;have a2r:=((fa.below hA1).drew.below hb1);have o0:=a2r;have p0:=hi1;go_at_call 43;(with_reducible refine(VJ _ _ (x) (-(y)) _ o0 p0 hl hc5).mono ?_);rintro e w2 ⟨v2,rfl,hi2,hb2⟩;obtain⟨g2,p2,n2,c2,h2,o2,m2,e2,rfl⟩:=hi2.form;have kR:=((i0.drew.to hb1).to hb2);obtain⟨a0,e0,b0,f0,c0,g0,d0,h0⟩:=kR.cf4)))
 have k0:=(Below.tr (Below.tr (Below.tr aY hA1).drew hb1) hb2)
 go_wp2_with fail
 exact bodyPost_ret (v:=.agg #[.bool g2,.slice p2 n2 c2,.bool h2,.slice o2 m2 e2]) (by simp[results,Tryz.results78,go_sem,a0,e0,b0,f0,c0,g0,d0,h0]) rfl ⟨_,rfl,by rw[Rat.sub_eq_add_neg];exact(hi2.aP kR rfl rfl rfl rfl (.bool g2) (.slice p2 n2 c2) (.bool h2) (.slice o2 m2 e2)),(Below.aP k0 (b:=w.heap.size+1+1) (by omega) (.bool g2) (.slice p2 n2 c2) (.bool h2) (.slice o2 m2 e2))⟩
theorem a9A (x y:Rat):sgn (x-y).num=lY x y:=by
 unfold lY
 have h1:=Rat.lt_iff (x-y) 0
 have h2:=Rat.lt_iff 0 (x-y)
 simp at h1 h2
 by_cases hx:x<y
 ·rw[if_pos hx,BJ (h1.1 (by grind))]
 ·rw[if_neg hx]
  by_cases hy:y<x
  ·rw[if_pos hy,wZ (h2.1 (by grind))]
  ·rw[if_neg hy]
   have:x-y=0:=by grind
   rw[this];rfl
theorem CQ (v u:Value) (x y:Rat) (w:World) (fa:RQ w v x) (fb:RQ w u y) (hl:rsz x<=190000000) (hl2:rsz y<=190000000) :
  Calls Tryz.prog 23 #[v,u] w (fun e w'=>e=.returned (.int .i64 (lY x y))/\Below w.heap.size w w'):=by
 obtain⟨b,p,n,c,d,o,m,e,rfl⟩:=fa.form
 obtain⟨f,i,j,k,g,r,t,a,rfl⟩:=fb.form
 have hb1:=dA x
 have hb2:=bY x
 have hb3:=dA y
 have hb4:=bY y
 have hc5:=wY x y
 have aY:Below w.heap.size w w:=Below.refl _ _
 go_enter Tryz.func23,Tryz.ntmps23
 go_wp2_with fail
 obtain⟨hA1,e0,f0⟩:=bx2 w rfl [.bool b,.slice p n c,.bool d,.slice o m e] 30 [.bool f,.slice i j k,.bool g,.slice r t a] 30
 have b0:=(fa.below hA1)
 have c0:=(fb.below hA1)
 (with_reducible refine(a6D _ _ (x) (y) _ b0 c0 hl hl2).mono ?_)
 rintro e w1 ⟨v1,rfl,hi1,hb1⟩
 obtain⟨g1,p1,n1,c1,h1,o1,m1,e1,rfl⟩:=hi1.form
 go_wp2_with fail
 have d0:=hi1
 (with_reducible refine(wV _ ((x)-(y)) _ d0 (by omega)).mono ?_)
 rintro e w2 ⟨rfl,hb2⟩
 have a0:=(Below.tr (Below.tr (Below.tr aY hA1) hb1) hb2)
 go_wp2_with fail
 go_ret
 exact⟨fH (a9A x y),a0⟩
theorem VN (v u:Value) (x y:Rat) (w:World) (fa:RQ w v x) (fb:RQ w u y) (hl:rsz x<=190000000) (hl2:rsz y<=190000000) :
  Calls Tryz.prog 75 #[v,u] w (GB (decide (x=y)) w):=by
 have hn1:=fa.qn (k:=999999999) (by omega)
 have hn2:=fb.qn (k:=999999999) (by omega)
 obtain⟨b,p,n,c,d,o,m,e,rfl⟩:=fa.form
 obtain⟨f,i,j,k,g,r,t,a,rfl⟩:=fb.form
 have HX:Hid ((lY x y==0)=decide (x=y)):=Lib.hid (by
  have:=AO x y
  rw[Bool.eq_iff_iff]
  simp only[beq_iff_eq,decide_eq_true_eq]
  exact this)
 have aY:Below w.heap.size w w:=Below.refl _ _
 go_enter Tryz.func75,Tryz.ntmps75
 go_wp2_with fail
 obtain⟨hA1,b0,c0⟩:=bx2 w rfl [.bool b,.slice p n c,.bool d,.slice o m e] 30 [.bool f,.slice i j k,.bool g,.slice r t a] 30
 have d0:=(fa.below hA1).raw
 (with_reducible refine(qN _ _ _ _ d0 hn1).mono ?_)
 rintro e w1 ⟨rfl,hb1⟩
 have cZ:=(c0.to hb1)
 obtain⟨l0,n0,p0,r0⟩:=cZ.cs4
 go_wp2_with fail
 have a0k:=((fb.below hA1).below hb1)
 have e0:=a0k.raw
 (with_reducible refine(qN _ _ _ _ e0 hn2).mono ?_)
 rintro e w2 ⟨rfl,hb2⟩
 have bV:=((b0.to hb1).to hb2)
 obtain⟨h0,i0,j0,k0⟩:=bV.cs4
 have bH:=(cZ.to hb2)
 obtain⟨m0,o0,q0,s0⟩:=bH.cs4
 go_wp2_with fail
 have b8b:=(((fa.below hA1).below hb1).below hb2)
 have f0:=b8b
 have b8c:=(a0k.below hb2)
 have g0:=b8c
 (with_reducible refine(CQ _ _ (x) (y) _ f0 g0 hl hl2).mono ?_)
 rintro e w3 ⟨rfl,hb3⟩
 have a0:=(Below.tr (Below.tr (Below.tr (Below.tr aY hA1) hb1) hb2) hb3)
 go_wp2_with fail
 go_ret
 exact⟨fB HX.out,a0⟩
theorem YN (v u:Value) (x y:Rat) (w:World) (fa:RQ w v x) (fb:RQ w u y) (hl:rsz x<=190000000) (hl2:rsz y<=190000000) :
  Calls Tryz.prog 21 #[v,u] w (GB (decide (x=y)) w):=by
 obtain⟨b,p,n,c,d,o,m,e,rfl⟩:=fa.form
 obtain⟨f,i,j,k,g,r,t,a,rfl⟩:=fb.form
 have aY:Below w.heap.size w w:=Below.refl _ _
 go_enter Tryz.func21,Tryz.ntmps21
 go_wp2_with fail
 obtain⟨hA1,d0,e0⟩:=bx2 w rfl [.bool b,.slice p n c,.bool d,.slice o m e] 30 [.bool f,.slice i j k,.bool g,.slice r t a] 30
 have b0:=(fa.below hA1)
 have c0:=(fb.below hA1)
 (with_reducible refine(VN _ _ _ _ _ b0 c0 hl hl2).mono ?_)
 rintro e w1 ⟨rfl,hb1⟩
 have a0:=(Below.tr (Below.tr aY hA1) hb1)
 go_wp2_with fail
 go_ret
 exact⟨rfl,a0⟩
end Go.Proofs.YtidfgdchcpmnfaaGreat
namespace Go.Proofs.YtidfgdchcpmnfaaGreat
open Go Go.RowKit
set_option maxRecDepth 100000
set_option maxHeartbeats 4000000
set_option linter.unusedSimpArgs false
set_option linter.unusedVariables false
def okc (x:Int):Prop:=-1048576<=x/\x<=1048576
instance (x:Int):Decidable (okc x):=by unfold okc;infer_instance
def dH (a b c d:Int):Int:=if a=0/\b=0/\c=0/\d=0 then 1 else if okc a/\okc b/\okc c/\okc d then 0 else 3
def aK (xs:Nat->Int):Nat->Int
 | 0=>0
 | k+1=>((Int.gcd (aK xs k) (xs k):Nat):Int)
def gX (xs:Nat->Int):Nat->Int
 | 0=>0
 | k+1=>if gX xs k=0 then xs k else gX xs k
theorem ER {xs:Nat->Int} {K:Nat}:∀ k,(∀ j,j<k->isz (xs j)<=K)->isz (aK xs k)<=K
 | 0,_=>by show isz 0<=K;rw[a0O];omega
 | k+1,h=>by
  have ih:=ER k (fun j hj=>h j (by omega))
  show isz ((Int.gcd (aK xs k) (xs k):Nat):Int)<=K
  by_cases hx:xs k=0
  ·rw[hx,Int.gcd_zero_right]
   have:isz (((aK xs k).natAbs:Nat):Int)=isz (aK xs k):=by unfold isz;simp
   omega
  ·exact pI hx (h k (by omega))
theorem a4r {xs:Nat->Int} {j:Nat} (hj:xs j≠0):∀ k,j<k->aK xs k≠0
 | 0,h=>by omega
 | k+1,h=>by
  show ((Int.gcd (aK xs k) (xs k):Nat):Int)≠0
  intro e
  have e':Int.gcd (aK xs k) (xs k)=0:=by omega
  rw[Int.gcd_eq_zero_iff] at e'
  by_cases hk:j=k
  ·subst hk;exact hj e'.2
  ·exact a4r hj k (by omega) e'.1
theorem oD {x:Int}:sgn x=0↔x=0:=by unfold sgn;exact Int.sign_eq_zero_iff_zero
def iK (xs:Nat->Int):Int:=if gX xs 4<0 then -aK xs 4 else aK xs 4
def fA (xs:Nat->Int) (k:Nat):Int:=(xs k).fdiv (iK xs)
def wO (xs:Nat->Int):Prop:=∀ k,k<4->okc (fA xs k)
instance (xs:Nat->Int):Decidable (wO xs):=by unfold wO;infer_instance
theorem QU {xs:Nat->Int} {j:Nat} (hj:j<4) (h:xs j≠0):iK xs≠0:=by
 have:=a4r h 4 hj
 unfold iK
 split<;>omega
def xs4 (a b c d:Int):Nat->Int
 | 0=>a|1=>b|2=>c|_=>d
def nzB (q:Nat->Rat):Bool:=!allB 4 (fun i=>decide (q i=0))
theorem rD {x y:Int} (hy:y≠0) (h:y ∣ x):isz (x.fdiv y)<=isz x:=by
 obtain⟨z,rfl⟩:=h
 rw[Int.mul_fdiv_cancel_left _ hy]
 exact zD (by rw[Int.natAbs_mul];exact Nat.le_mul_of_pos_left _ (Int.natAbs_pos.2 hy))
def qP (q:Nat->Rat):Int:=1*((q 0).den:Int)*((q 1).den:Int)*((q 2).den:Int)*((q 3).den:Int)
def aX (q:Nat->Rat):Nat->Int:=fun k=>(q k).num*(qP q).fdiv ((q k).den:Int)
theorem qI {x:Int} (h0:-9223372036854775808<=x) (h1:x<=9223372036854775807):isz x<=400000000 :=
 Nat.le_trans (qR (k:=3) (by rw[bI];omega)) (by omega)
theorem nZ {a b c d:Int} (h:dH a b c d=0):¬ (a=0/\b=0/\c=0/\d=0)/\okc a/\okc b/\okc c/\okc d:=by
 unfold dH at h
 by_cases h1:a=0/\b=0/\c=0/\d=0
 ·rw[if_pos h1] at h;omega
 ·rw[if_neg h1] at h
  by_cases h2:okc a/\okc b/\okc c/\okc d
  ·exact⟨h1,h2⟩
  ·rw[if_neg h2] at h;omega
theorem bT {x y:Int} (hx:okc x) (hy:okc y):-1099511627776<=x*y/\x*y<=1099511627776:=by
 unfold okc at hx hy
 have h1:(x*y).natAbs<=1048576*1048576:=by
  rw[Int.natAbs_mul]
  exact Nat.mul_le_mul (by omega) (by omega)
 omega
def gW (a b c d:Int):Int:=a*a+b*b+c*c+d*d
def nY (a b c d e f g h:Int):Int:=if dH a b c d=0 then dH e f g h else dH a b c d
def b1T (a b c d e f g h:Int):Nat->Int:=xs4 (a*e-b*f-c*g-d*h) (a*f+b*e+c*h-d*g) (a*g-b*h+c*e+d*f) (a*h+b*g-c*f+d*e)
theorem a6l (a b c d e f g h:Int):(a*e-b*f-c*g-d*h)*(a*e-b*f-c*g-d*h)+(a*f+b*e+c*h-d*g)*(a*f+b*e+c*h-d*g)+(a*g-b*h+c*e+d*f)*(a*g-b*h+c*e+d*f)+(a*h+b*g-c*f+d*e)*(a*h+b*g-c*f+d*e)=gW a b c d*gW e f g h:=by
 unfold gW;grind
theorem vJ {a b c d:Int} (h:¬ (a=0/\b=0/\c=0/\d=0)):0<gW a b c d:=by
 have s:∀ x:Int,0<=x*x:=fun x=>by
  rcases Int.le_total 0 x with h|h
  ·exact Int.mul_nonneg h h
  ·exact Int.mul_nonneg_of_nonpos_of_nonpos h h
 have p:∀ x:Int,x≠0->0<x*x:=fun x hx=>by
  rcases Int.lt_or_gt_of_ne hx with h|h
  ·exact Int.mul_pos_of_neg_of_neg h h
  ·exact Int.mul_pos h h
 unfold gW
 have:=s a;have:=s b;have:=s c;have:=s d
 by_cases ha:a=0
 ·by_cases hb:b=0
  ·by_cases hc:c=0
   ·have:=p d (fun hd=>h ⟨ha,hb,hc,hd⟩);omega
   ·have:=p c hc;omega
  ·have:=p b hb;omega
 ·have:=p a ha;omega
theorem b1b {a b c d e f g h:Int} (h1:¬ (a=0/\b=0/\c=0/\d=0)) (h2:¬ (e=0/\f=0/\g=0/\h=0)) :
  ¬ (a*e-b*f-c*g-d*h=0/\a*f+b*e+c*h-d*g=0/\a*g-b*h+c*e+d*f=0/\a*h+b*g-c*f+d*e=0):=fun⟨k0,k1,k2,k3⟩=>by
 have:=a6l a b c d e f g h
 rw[k0,k1,k2,k3] at this
 have:=Int.mul_pos (vJ h1) (vJ h2)
 omega
theorem KL {a b c d:Int} (oa:okc a) (ob:okc b) (oc:okc c) (od:okc d):-8796093022208<=gW a b c d/\gW a b c d<=8796093022208:=by
 obtain⟨p0,p1⟩:=bT oa oa
 obtain⟨p2,p3⟩:=bT ob ob
 obtain⟨p4,p5⟩:=bT oc oc
 obtain⟨p6,p7⟩:=bT od od
 unfold gW;omega
def CB (a b c d e f g h:Int):Int:=a*e+b*f+c*g+d*h
theorem a3a {a b c d e f g h:Int} (oa:okc a) (ob:okc b) (oc:okc c) (od:okc d) (oe:okc e) (of:okc f) (og:okc g) (oh:okc h):-8796093022208<=CB a b c d e f g h/\CB a b c d e f g h<=8796093022208:=by
 obtain⟨p0,p1⟩:=bT oa oe
 obtain⟨p2,p3⟩:=bT ob of
 obtain⟨p4,p5⟩:=bT oc og
 obtain⟨p6,p7⟩:=bT od oh
 unfold CB;omega
def a2i (a b c d e f g h:Int):Rat:=((1:Int):Rat)-Rat.divInt (CB a b c d e f g h*CB a b c d e f g h) (gW a b c d*gW e f g h)
theorem a2H {x:Int} (h0:-8796093022208<=x) (h1:x<=8796093022208):isz x<=2 :=
 qR (by rw[bI];omega)
def kQ (s:Nat->Int) (e:Nat->Nat->Rat):Nat->Rat
 | 0=>((1:Int):Rat)
 | k+1=>kQ s e k+((s k:Int):Rat)*e k k
theorem JC {s:Nat->Int} {e:Nat->Nat->Rat} {K:Nat} (hs:∀ k,k<3->rsz ((s k:Int):Rat)<=1) (he:∀ k,k<3->rsz (e k k)<=K):∀ k,k<=3->rsz (kQ s e k)<=k*(K+2)+1
 | 0,_=>by
  show rsz ((1:Int):Rat)<=_
  have:rsz ((1:Int):Rat)<=1:=by decide +kernel
  omega
 | k+1,hk=>by
  have ih:=JC hs he k (by omega)
  have a:=iV ((s k:Int):Rat) (e k k)
  have b:=wW (kQ s e k) (((s k:Int):Rat)*e k k)
  have c:=hs k (by omega)
  have d:=he k (by omega)
  show rsz (kQ s e k+((s k:Int):Rat)*e k k)<=_
  rw[Nat.succ_mul]
  omega
theorem wF (q:Nat->Rat) {k:Nat} (hk:k<4):((q k).den:Int) ∣ qP q:=by
 unfold qP
 have:k=0\/k=1\/k=2\/k=3:=by omega
 rcases this with rfl|rfl|rfl|rfl
 ·exact Int.dvd_mul_of_dvd_left (Int.dvd_mul_of_dvd_left (Int.dvd_mul_of_dvd_left (Int.dvd_mul_left _ _)))
 ·exact Int.dvd_mul_of_dvd_left (Int.dvd_mul_of_dvd_left (Int.dvd_mul_left _ _))
 ·exact Int.dvd_mul_of_dvd_left (Int.dvd_mul_left _ _)
 ·exact Int.dvd_mul_left _ _
theorem a2j {q:Nat->Rat} {K:Nat} (h:∀ k,k<4->rsz (q k)<=K):isz (qP q)<=4*K+1:=by
 unfold qP
 have h0:=h 0 (by omega)
 have h1:=h 1 (by omega)
 have h2:=h 2 (by omega)
 have h3:=h 3 (by omega)
 have d0:=bY (q 0)
 have d1:=bY (q 1)
 have d2:=bY (q 2)
 have d3:=bY (q 3)
 have m0:=dR 1 ((q 0).den:Int)
 have m1:=dR (1*((q 0).den:Int)) ((q 1).den:Int)
 have m2:=dR (1*((q 0).den:Int)*((q 1).den:Int)) ((q 2).den:Int)
 have m3:=dR (1*((q 0).den:Int)*((q 1).den:Int)*((q 2).den:Int)) ((q 3).den:Int)
 have z:isz 1<=1:=by decide +kernel
 omega
theorem JV {q:Nat->Rat} {K:Nat} (h:∀ k,k<4->rsz (q k)<=K) {k:Nat} (hk:k<4):isz (aX q k)<=5*K+1:=by
 unfold aX
 have h1:=dR (q k).num ((qP q).fdiv ((q k).den:Int))
 have h2:=rD (x:=qP q) (y:=((q k).den:Int)) (by have:=(q k).den_nz;omega) (wF q hk)
 have h3:=a2j h
 have h4:=dA (q k)
 have h5:=h k hk
 omega
theorem a5w (q:Nat->Rat):qP q≠0:=by
 unfold qP
 have h:∀ k,((q k).den:Int)≠0:=fun k=>by have:=(q k).den_nz;omega
 exact Int.mul_ne_zero (Int.mul_ne_zero (Int.mul_ne_zero (Int.mul_ne_zero (by omega) (h 0)) (h 1)) (h 2)) (h 3)
theorem NT {q:Nat->Rat} {k:Nat} (hk:k<4) (h:q k≠0):aX q k≠0:=by
 unfold aX
 refine Int.mul_ne_zero (fun e=>h (Rat.num_eq_zero.1 e)) (fun e=>?_)
 obtain⟨z,hz⟩:=wF q hk
 have hd:((q k).den:Int)≠0:=by have:=(q k).den_nz;omega
 rw[hz,Int.mul_fdiv_cancel_left _ hd] at e
 rw[e,Int.mul_zero] at hz
 exact a5w q hz
def dM (q:Nat->Rat):Nat->Int
 | 0=>1
 | k+1=>dM q k*((q k).den:Int)
theorem OB {q:Nat->Rat} {K:Nat} (h:∀ k,k<4->rsz (q k)<=K):∀ k,k<=4->isz (dM q k)<=k*K+1
 | 0,_=>by
  show isz 1<=_
  have:isz 1<=1:=by decide +kernel
  omega
 | k+1,hk=>by
  have ih:=OB h k (by omega)
  have m:=dR (dM q k) ((q k).den:Int)
  have a:=h k (by omega)
  have b:=bY (q k)
  show isz (dM q k*((q k).den:Int))<=_
  rw[Nat.succ_mul]
  omega
def iH (e:Nat->Nat->Rat):Nat->Nat->Rat
 | 0=>fun|0=>kQ (xs4 1 1 1 0) e 3|1=>e 2 1-e 1 2|2=>e 0 2-e 2 0|_=>e 1 0-e 0 1
 | 1=>fun|0=>e 2 1-e 1 2|1=>kQ (xs4 1 (-1) (-1) 0) e 3|2=>e 0 1+e 1 0|_=>e 0 2+e 2 0
 | 2=>fun|0=>e 0 2-e 2 0|1=>e 0 1+e 1 0|2=>kQ (xs4 (-1) 1 (-1) 0) e 3|_=>e 1 2+e 2 1
 | _=>fun|0=>e 1 0-e 0 1|1=>e 0 2+e 2 0|2=>e 1 2+e 2 1|_=>kQ (xs4 (-1) (-1) 1 0) e 3
theorem a6b {e:Nat->Nat->Rat} {K:Nat} (h:∀ i j,i<3->j<3->rsz (e i j)<=K) (hK:K<=700000):∀ i k,k<4->rsz (iH e i k)<=50000000:=by
 have hs:∀ x y z:Int,(x=1\/x=-1)->(y=1\/y=-1)->(z=1\/z=-1)->rsz (kQ (xs4 x y z 0) e 3)<=50000000:=fun x y z hx hy hz=>by
  have u:∀ x:Int,(x=1\/x=-1)->rsz ((x:Int):Rat)<=1:=fun x hx=>by rcases hx with e|e<;>rw[e]<;>decide +kernel
  have:=JC (s:=xs4 x y z 0) (e:=e) (K:=K) (fun k hk=>by
   obtain rfl|rfl|rfl:k=0\/k=1\/k=2:=by omega
   ·exact u x hx
   ·exact u y hy
   ·exact u z hz) (fun k hk=>h k k hk hk) 3 (by omega)
  omega
 have hm:∀ i j,i<3->j<3->rsz (e i j-e j i)<=50000000:=fun i j hi hj=>by have:=wY (e i j) (e j i);have:=h i j hi hj;have:=h j i hj hi;omega
 have hp:∀ i j,i<3->j<3->rsz (e i j+e j i)<=50000000:=fun i j hi hj=>by have:=wW (e i j) (e j i);have:=h i j hi hj;have:=h j i hj hi;omega
 intro i k hk
 obtain rfl|rfl|rfl|rfl:k=0\/k=1\/k=2\/k=3:=by omega
 all_goals
  match i with
  | 0=>first|exact hs _ _ _ (by omega) (by omega) (by omega)|exact hm _ _ (by omega) (by omega)|exact hp _ _ (by omega) (by omega)
  | 1=>first|exact hs _ _ _ (by omega) (by omega) (by omega)|exact hm _ _ (by omega) (by omega)|exact hp _ _ (by omega) (by omega)
  | 2=>first|exact hs _ _ _ (by omega) (by omega) (by omega)|exact hm _ _ (by omega) (by omega)|exact hp _ _ (by omega) (by omega)
  | _+3=>first|exact hs _ _ _ (by omega) (by omega) (by omega)|exact hm _ _ (by omega) (by omega)|exact hp _ _ (by omega) (by omega)
def dQ (a b c d:Int):Nat->Nat->Int
 | 0=>fun|0=>a*a+b*b-c*c-d*d|1=>2*(b*c-a*d)|_=>2*(b*d+a*c)
 | 1=>fun|0=>2*(b*c+a*d)|1=>a*a-b*b+c*c-d*d|_=>2*(c*d-a*b)
 | _=>fun|0=>2*(b*d-a*c)|1=>2*(c*d+a*b)|_=>a*a-b*b-c*c+d*d
def qM (a b c d:Int) (i j:Nat):Rat:=Rat.divInt (dQ a b c d i j) (gW a b c d)
theorem a3m {a b c d:Int} (oa:okc a) (ob:okc b) (oc:okc c) (od:okc d) {i j:Nat} (hi:i<3) (hj:j<3):-8796093022208<=dQ a b c d i j/\dQ a b c d i j<=8796093022208:=by
 obtain⟨b8M,b8N⟩:=bT oa oa
 obtain⟨b8O,b8P⟩:=bT oa ob
 obtain⟨b8Q,b8R⟩:=bT oa oc
 obtain⟨b8S,b8T⟩:=bT oa od
 obtain⟨b8U,b8V⟩:=bT ob ob
 obtain⟨b8W,b8X⟩:=bT ob oc
 obtain⟨b8Y,b8Z⟩:=bT ob od
 obtain⟨b9a,b9b⟩:=bT oc oc
 obtain⟨b9c,b9d⟩:=bT oc od
 obtain⟨b9e,b9f⟩:=bT od od
 obtain rfl|rfl|rfl:i=0\/i=1\/i=2:=by omega
 all_goals
  obtain rfl|rfl|rfl:j=0\/j=1\/j=2:=by omega
  all_goals
   simp only[dQ]
   omega
theorem OZ {xs:Nat->Int}:∀ k j,j<k->aK xs k ∣ xs j
 | 0,j,h=>by omega
 | k+1,j,h=>by
  show ((Int.gcd (aK xs k) (xs k):Nat):Int) ∣ xs j
  by_cases e:j=k
  ·subst e;exact Int.gcd_dvd_right ..
  ·exact Int.dvd_trans (Int.gcd_dvd_left ..) (OZ k j (by omega))
theorem JE {xs:Nat->Int} {j:Nat} (hj:j<4):iK xs ∣ xs j:=by
 unfold iK
 split
 ·exact Int.neg_dvd.2 (OZ 4 j hj)
 ·exact OZ 4 j hj
theorem a0v (t:Int) (xs:Nat->Int):∀ k,aK (fun j=>t*xs j) k=(t.natAbs:Int)*aK xs k
 | 0=>by show (0:Int)=_*0;simp
 | k+1=>by
  show ((Int.gcd (aK (fun j=>t*xs j) k) (t*xs k):Nat):Int)=_*((Int.gcd (aK xs k) (xs k):Nat):Int)
  rw[a0v t xs k]
  have h1:((t.natAbs:Nat):Int)*aK xs k=t*(if 0<=t then aK xs k else -aK xs k):=by
   split
   ·rw[Int.natAbs_of_nonneg (by assumption)]
   ·have:((t.natAbs:Nat):Int)=-t:=by omega
    rw[this];grind
  rw[h1,Int.gcd_mul_left]
  have h2:Int.gcd (if 0<=t then aK xs k else -aK xs k) (xs k)=Int.gcd (aK xs k) (xs k):=by
   split
   ·rfl
   ·exact Int.neg_gcd
  rw[h2];simp
theorem a0s {t:Int} (ht:t≠0) (xs:Nat->Int):∀ k,gX (fun j=>t*xs j) k=t*gX xs k
 | 0=>by show (0:Int)=_*0;simp
 | k+1=>by
  show (if gX (fun j=>t*xs j) k=0 then t*xs k else gX (fun j=>t*xs j) k)=t*(if gX xs k=0 then xs k else gX xs k)
  rw[a0s ht xs k]
  by_cases h:gX xs k=0
  ·rw[if_pos h,if_pos (by rw[h];simp)]
  ·rw[if_neg h,if_neg (fun e=>(Int.mul_eq_zero.1 e).elim ht h)]
theorem UG {xs:Nat->Int}:∀ k,gX xs k=0->aK xs k=0
 | 0,_=>rfl
 | k+1,h=>by
  have h':(if gX xs k=0 then xs k else gX xs k)=0:=h
  by_cases e:gX xs k=0
  ·rw[if_pos e] at h'
   show ((Int.gcd (aK xs k) (xs k):Nat):Int)=0
   rw[UG k e,h'];rfl
  ·rw[if_neg e] at h';exact absurd h' e
theorem a6h {t:Int} (ht:t≠0) (xs:Nat->Int):iK (fun j=>t*xs j)=t*iK xs:=by
 unfold iK
 rw[a0s ht,a0v]
 rcases Int.lt_trichotomy (gX xs 4) 0 with hf|hf|hf
 ·rcases Int.lt_or_gt_of_ne ht with h|h
  ·have h1:0<t*gX xs 4:=Int.mul_pos_of_neg_of_neg h hf
   rw[if_neg (by omega),if_pos hf,show ((t.natAbs:Nat):Int)=-t by omega];grind
  ·have h1:t*gX xs 4<0:=Int.mul_neg_of_pos_of_neg h hf
   rw[if_pos h1,if_pos hf,show ((t.natAbs:Nat):Int)=t by omega];grind
 ·rw[hf,UG 4 hf];simp
 ·rcases Int.lt_or_gt_of_ne ht with h|h
  ·have h1:t*gX xs 4<0:=Int.mul_neg_of_neg_of_pos h hf
   rw[if_pos h1,if_neg (by omega),show ((t.natAbs:Nat):Int)=-t by omega];grind
  ·have h1:0<t*gX xs 4:=Int.mul_pos h hf
   rw[if_neg (by omega),if_neg (by omega),show ((t.natAbs:Nat):Int)=t by omega]
theorem VH {t:Int} (ht:t≠0) (xs:Nat->Int) {j:Nat} (hj:j<4):fA (fun j=>t*xs j) j=fA xs j:=by
 show (t*xs j).fdiv (iK (fun j=>t*xs j))=(xs j).fdiv (iK xs)
 rw[a6h ht]
 obtain⟨y,hy⟩:=JE (xs:=xs) hj
 by_cases hG:iK xs=0
 ·rw[hy,hG];simp
 ·rw[hy,Int.mul_fdiv_cancel_left _ hG,<-Int.mul_assoc,Int.mul_fdiv_cancel_left _ (fun e=>(Int.mul_eq_zero.1 e).elim ht hG)]
theorem a0r {xs ys:Nat->Int}:∀ k,(∀ j,j<k->xs j=ys j)->gX xs k=gX ys k
 | 0,_=>rfl
 | k+1,h=>by
  show (if gX xs k=0 then xs k else gX xs k)=(if gX ys k=0 then ys k else gX ys k)
  rw[a0r k (fun j hj=>h j (by omega)),h k (by omega)]
theorem a0u {xs ys:Nat->Int}:∀ k,(∀ j,j<k->xs j=ys j)->aK xs k=aK ys k
 | 0,_=>rfl
 | k+1,h=>by
  show ((Int.gcd (aK xs k) (xs k):Nat):Int)=((Int.gcd (aK ys k) (ys k):Nat):Int)
  rw[a0u k (fun j hj=>h j (by omega)),h k (by omega)]
theorem a6i {xs ys:Nat->Int} (h:∀ j,j<4->xs j=ys j) {j:Nat} (hj:j<4):fA xs j=fA ys j:=by
 unfold fA iK
 rw[a0r 4 h,a0u 4 h,h j hj]
theorem a1b {xs ys:Nat->Int} {s t:Int} (hs:s≠0) (ht:t≠0) (h:∀ j,j<4->s*xs j=t*ys j) {j:Nat} (hj:j<4):fA xs j=fA ys j:=by
 rw[<-VH hs xs hj,<-VH ht ys hj]
 exact a6i h hj
theorem QV (xs:Nat->Int) {j:Nat} (hj:j<4):xs j=iK xs*fA xs j:=by
 obtain⟨y,hy⟩:=JE (xs:=xs) hj
 unfold fA
 by_cases hG:iK xs=0
 ·rw[hG] at hy ⊢;rw[hy];simp
 ·conv=>lhs;rw[hy]
  conv=>rhs;rw[hy]
  rw[Int.mul_fdiv_cancel_left _ hG]
set_option maxRecDepth 20000
theorem iO {G:Prop} (V:Prop) (h:V=G) (v:V):G:=h ▸ v
abbrev asT (α:Type) (x:α):α:=x
abbrev aV (α:Type):List α:=[]
abbrev aF (n:Nat):Int:=(n:Int)
abbrev jG (n:Int):Rat:=(n:Rat)
abbrev aA.{u} {α:Sort u} {p:α->Prop} (x:Subtype p):α:=x.1
abbrev tB:Ty:=.bool
abbrev mP:Ty:=.pair tI (.pair tI (.pair tI (.pair tI .unit)))
abbrev tM:Ty:=.list (.list tQ)
def cHI (pre:Int->Int->Int->Int->Prop) (g:Int->Int->Int->Int->Int):Ctr:=⟨[mP],[tI],fun x=>pre x.1.1 x.1.2.1 x.1.2.2.1 x.1.2.2.2.1,fun x=>(g x.1.1 x.1.2.1 x.1.2.2.1 x.1.2.2.2.1,())⟩
abbrev QC4:Type:=(Int × Int × Int × Int × Unit) × Int × Unit
def cHQ (pre:Int->Int->Int->Int->Prop) (g:Int->Int->Int->Int->QC4):Ctr:=⟨[mP],[mP,tI],fun x=>pre x.1.1 x.1.2.1 x.1.2.2.1 x.1.2.2.2.1,fun x=>g x.1.1 x.1.2.1 x.1.2.2.1 x.1.2.2.2.1⟩
def b2h (g:Int->Int->Int->Int->Int->Int->Int->Int->QC4):Ctr:=⟨[mP,mP],[mP,tI],fun x=>True,fun x=>g x.1.1 x.1.2.1 x.1.2.2.1 x.1.2.2.2.1 x.2.1.1 x.2.1.2.1 x.2.1.2.2.1 x.2.1.2.2.2.1⟩
def b2i (pre:Rat->Rat->Prop) (g:Rat->Rat->Bool):Ctr:=⟨[tQ,tQ],[tB],fun x=>pre x.1 x.2.1,fun x=>(g x.1 x.2.1,())⟩
theorem a3X {f:FuncId} {pre:Rat->Rat->Prop} {g:Rat->Rat->Bool} (h:∀ (v u:Value) (x y:Rat) (w:World),RQ w v x->RQ w u y->pre x y->Calls Tryz.prog f #[v,u] w (GB (g x y) w)):dI Tryz.prog f (b2i pre g):=by
 intro F w vs x hF hvs hp
 obtain⟨v,vs',rfl,h1,u,vs'',rfl,h2,h3⟩:=hvs
 have h3:vs''=[]:=h3
 subst h3
 refine(h v u x.1 x.2.1 w (sU h1) (sU h2) hp).mono ?_
 rintro e w' ⟨rfl,hb⟩
 exact⟨_,rfl,SB _,hb⟩
def b2j (pre:Rat->Rat->Prop) (g:Rat->Rat->Int):Ctr:=⟨[tQ,tQ],[tI],fun x=>pre x.1 x.2.1,fun x=>(g x.1 x.2.1,())⟩
theorem a3Y {f:FuncId} {pre:Rat->Rat->Prop} {g:Rat->Rat->Int} (h:∀ (v u:Value) (x y:Rat) (w:World),RQ w v x->RQ w u y->pre x y->Calls Tryz.prog f #[v,u] w (fun e w'=>e=.returned (.int .i64 (g x y))/\Below w.heap.size w w')):dI Tryz.prog f (b2j pre g):=by
 intro F w vs x hF hvs hp
 obtain⟨v,vs',rfl,h1,u,vs'',rfl,h2,h3⟩:=hvs
 have h3:vs''=[]:=h3
 subst h3
 refine(h v u x.1 x.2.1 w (sU h1) (sU h2) hp).mono ?_
 rintro e w' ⟨rfl,hb⟩
 exact⟨_,rfl,tC _,hb⟩
def cQI (pre:Rat->Prop) (g:Rat->Int):Ctr:=⟨[tQ],[tI],fun x=>pre x.1,fun x=>(g x.1,())⟩
theorem a7v {f:FuncId} {pre:Rat->Prop} {g:Rat->Int} (h:∀ (v:Value) (x:Rat) (w:World),RQ w v x->pre x->Calls Tryz.prog f #[v] w (fun e w'=>e=.returned (.int .i64 (g x))/\Below w.heap.size w w')):dI Tryz.prog f (cQI pre g):=by
 intro F w vs x hF hvs hp
 obtain⟨v,vs',rfl,h1,h3⟩:=hvs
 have h3:vs'=[]:=h3
 subst h3
 refine(h v x.1 w (sU h1) hp).mono ?_
 rintro e w' ⟨rfl,hb⟩
 exact⟨_,rfl,tC _,hb⟩
def aZ (i:Int):Prop:=-9223372036854775808<=i/\i<=9223372036854775807
def a7r:Ctr:=⟨[tI,tI],[tQ,tI],fun x=>aZ x.1/\aZ x.2.1/\(show Int from x.2.1)≠0,fun x=>(Rat.divInt x.1 x.2.1,(0:Int),())⟩
theorem ZW {f:FuncId} (h:∀ (i k:Int) (w:World),-9223372036854775808<=i->i<=9223372036854775807->-9223372036854775808<=k->k<=9223372036854775807->k≠0->Calls Tryz.prog f #[.int .i64 i,.int .i64 k] w (GQC (Rat.divInt i k) 0 w)):dI Tryz.prog f a7r:=by
 intro F w vs x hF hvs hp
 obtain⟨v,vs',rfl,h1,u,vs'',rfl,h2,h3⟩:=hvs
 have h3:vs''=[]:=h3
 subst h3
 rw[a0J h1,a0J h2]
 refine(h _ _ w hp.1.1 hp.1.2 hp.2.1.1 hp.2.1.2 hp.2.2).mono ?_
 rintro e w' ⟨r,rfl,hr,hb⟩
 exact⟨_,rfl,⟨[_,_],rfl,_,_,rfl,a5g hr,_,_,rfl,tC _,rfl⟩,hb⟩
def cB (b:Bool):Ctr:=⟨[],[tB],fun x=>True,fun x=>(b,())⟩
def aU (xs:Nat->Int):QC4:=if wO xs then ((fA xs 0,fA xs 1,fA xs 2,fA xs 3,()),0,()) else ((0,0,0,0,()),3,())
def JZ (a b c d:Int):QC4:=if dH a b c d=0 then aU (xs4 a (-b) (-c) (-d)) else ((0,0,0,0,()),dH a b c d,())
def dZ (a b c d:Int):QC4:=if dH a b c d=0 then aU (xs4 a b c d) else ((0,0,0,0,()),dH a b c d,())
def TF (a b c d e f g h:Int):QC4:=if nY a b c d e f g h=0 then aU (b1T a b c d e f g h) else ((0,0,0,0,()),nY a b c d e f g h,())
noncomputable def LQ:Lib:=(((((((Lib.nil
 ).add 43 (cQ2 (fun x y=>rsz x<=190000000/\rsz y<=190000000) (·+·)) (NR fun v u x y w a b h=>VJ v u x y w a b h.1 h.2)
 ).add 44 (cQ2 (fun x y=>rsz x<=190000000/\rsz y<=190000000) (·*·)) (NR fun v u x y w a b h=>a6w v u x y w a b h.1 h.2)
 ).add 111 (cQ1 (fun x=>rsz x<=190000000) (fun x=>-x)) (a2f fun v x w a h=>JJ v x w a (by omega))
 ).add 47 a7r (ZW fun i k w h0 h1 h2 h3 hk=>a9o i k w h0 h1 h2 h3 hk)
 ).add 75 (b2i (fun x y=>rsz x<=190000000/\rsz y<=190000000) (fun x y=>decide (x=y))) (a3X fun v u x y w a b h=>VN v u x y w a b h.1 h.2)
 ).add 21 (b2i (fun x y=>rsz x<=190000000/\rsz y<=190000000) (fun x y=>decide (x=y))) (a3X fun v u x y w a b h=>YN v u x y w a b h.1 h.2)
 ).add 64 a7r (ZW fun i k w h0 h1 h2 h3 hk=>b0W i k w h0 h1 h2 h3 hk)
end Go.Proofs.YtidfgdchcpmnfaaGreat
