/-
  Lemmas for the theorem vcayley_holds, part 28 of 33.
-/
import Derived.Test.YtidfgdchcpmnfaaGreatCy06
import Derived.Test.YtidfgdchcpmnfaaGreatCy10
import Derived.Test.YtidfgdchcpmnfaaGreatCy20
import Derived.Test.YtidfgdchcpmnfaaGreatCy21
import Derived.Test.YtidfgdchcpmnfaaGreatCy23
import Derived.Test.YtidfgdchcpmnfaaGreatCy27
namespace Go.Proofs.YtidfgdchcpmnfaaGreat
open Go.RowKit
set_option maxRecDepth 100000
set_option maxHeartbeats 4000000
set_option linter.unusedSimpArgs false
set_option linter.unusedVariables false
theorem a8s (v u:Value) (x y:Int) (w:World) (hv:bU w v x) (hu:bU w u y) (hl:isz x≤400000000) (hl2:isz y≤400000000) (hd:y ≠ 0) :
  Calls Tryz.prog 97 #[v,u] w (GQC (Rat.divInt x y) 0 w):=by
 obtain ⟨b,p,n,c,rfl⟩:=hv.form
 obtain ⟨d,o,m,e,rfl⟩:=hu.form
 have KN:(sgn y == 0)=false:=by have:=IV hd;simpa using this
 have aX:Below w.heap.size w w:=Below.refl _ _
 go_enter Tryz.func97,Tryz.ntmps97
 go_wp2_with fail
 obtain ⟨hA1,j0,k0,l0⟩:=bx3 w rfl [.bool b,.slice p n c] 28 [.bool d,.slice o m e] 28 [.bool false,.slice none 0 0,.bool false,.slice none 0 0] 30
 have m0:=(hu.below hA1).raw
 (with_reducible refine (mP _ (y) _ m0 (by omega)).mono ?_)
 rintro e w1 ⟨rfl,hb1⟩
 have bF:=(j0.to hb1)
 obtain ⟨p0,q0⟩:=bF.cs2
 have dD:=(k0.to hb1)
 obtain ⟨r0,s0⟩:=dD.cs2
 go_wp2_with fail
 have mY:=((hv.below hA1).below hb1)
 have n0:=mY
 have iM:=((hu.below hA1).below hb1)
 have o0:=iM
 (with_reducible refine (uO _ _ (x) (y) _ n0 o0 hl hl2 hd).mono ?_)
 rintro e w2 ⟨v2,rfl,hi2,hb2⟩
 obtain ⟨g2,p2,n2,c2,h2,o2,m2,e2,rfl⟩:=hi2.form
 have kS:=((l0.to hb1).to hb2)
 obtain ⟨a0,e0,b0,f0,c0,g0,d0,h0⟩:=kS.cf4
 have i0:=(Below.tr (Below.tr (Below.tr aX hA1) hb1) hb2)
 go_wp2_with fail
 exact bodyPost_ret (v:=.tuple #[.agg #[.bool g2,.slice p2 n2 c2,.bool h2,.slice o2 m2 e2],.int .i64 0]) (by simp [results,Tryz.results97,go_sem,a0,e0,b0,f0,c0,g0,d0,h0]) rfl ⟨_,rfl,(hi2.aQ kS rfl rfl rfl rfl (.bool g2) (.slice p2 n2 c2) (.bool h2) (.slice o2 m2 e2)),(Below.aQ i0 (b:=w.heap.size+1+1) (by omega) (.bool g2) (.slice p2 n2 c2) (.bool h2) (.slice o2 m2 e2))⟩
theorem a0j {x:Int} (h0:-9223372036854775808≤x) (h1:x≤9223372036854775807):isz x≤400000000 :=
 Nat.le_trans (uM (k:=3) (by rw [bG];omega)) (by omega)
theorem a8t (i k:Int) (w:World) (h0:-9223372036854775808≤i) (h1:i≤9223372036854775807) (h2:-9223372036854775808≤k) (h3:k≤9223372036854775807) (hk:k ≠ 0) :
  Calls Tryz.prog 47 #[.int .i64 i,.int .i64 k] w (GQC (Rat.divInt i k) 0 w):=by
 have hz1:=a0j h0 h1
 have hz2:=a0j h2 h3
 have aX:Below w.heap.size w w:=Below.refl _ _
 go_enter Tryz.func47,Tryz.ntmps47
 go_wp2_with fail
 (with_reducible refine (sF _ _ (by omega) (by omega)).mono ?_)
 rintro e w1 ⟨v1,rfl,hi1,hb1⟩
 obtain ⟨g1,p1,n1,c1,rfl⟩:=hi1.form
 go_wp2_with fail
 (with_reducible refine (sF _ _ (by omega) (by omega)).mono ?_)
 rintro e w2 ⟨v2,rfl,hi2,hb2⟩
 obtain ⟨g2,p2,n2,c2,rfl⟩:=hi2.form
 go_wp2_with fail
 have n0:=(hi1.below hb2)
 have l0:=n0
 have m0:=hi2
 (with_reducible refine (a8s _ _ (i) (k) _ l0 m0 hz1 hz2 hk).mono ?_)
 rintro e w3 ⟨v3,rfl,hi3,hb3⟩
 obtain ⟨g3,p3,n3,c3,h3,o3,m3,e3,rfl⟩:=hi3.form
 obtain ⟨hA1,k0⟩:=bx1 w rfl [.bool false,.slice none 0 0,.bool false,.slice none 0 0] 30
 have gJ:=(((k0.to hb1).to hb2).to hb3)
 obtain ⟨a0,e0,b0,f0,c0,g0,d0,i0⟩:=gJ.cf4
 have j0:=(Below.tr (Below.tr (Below.tr (Below.tr aX hA1) hb1) hb2) hb3)
 go_wp2_with fail
 exact bodyPost_ret (v:=.tuple #[.agg #[.bool g3,.slice p3 n3 c3,.bool h3,.slice o3 m3 e3],.int .i64 0]) (by simp [results,Tryz.results47,go_sem,a0,e0,b0,f0,c0,g0,d0,i0]) rfl ⟨_,rfl,(hi3.aQ gJ rfl rfl rfl rfl (.bool g3) (.slice p3 n3 c3) (.bool h3) (.slice o3 m3 e3)),(Below.aQ j0 (b:=w.heap.size) (by omega) (.bool g3) (.slice p3 n3 c3) (.bool h3) (.slice o3 m3 e3))⟩
theorem a2E (v:Value) (q:Rat) (w:World) (fa:RQ w v q) (hl:rsz q≤999999999) :
  Calls Tryz.prog 22 #[v] w (fun e w'=>e=.returned (.int .i64 (sgn q.num))∧Below w.heap.size w w'):=by
 obtain ⟨b,p,n,c,d,o,m,e,rfl⟩:=fa.form
 have hb1:=dI q
 have hb2:=bZ q
 have b0:=JK
 have aX:Below w.heap.size w w:=Below.refl _ _
 go_enter Tryz.func22,Tryz.ntmps22
 go_wp2_with fail
 obtain ⟨hA1,e0⟩:=bx1 w rfl [.bool b,.slice p n c,.bool d,.slice o m e] 30
 have c0:=(fa.below hA1)
 (with_reducible refine (mQ _ (q) _ c0 (by omega)).mono ?_)
 rintro e w1 ⟨v1,rfl,hi1,hb1⟩
 obtain ⟨g1,p1,n1,c1,h1,o1,m1,e1,rfl⟩:=hi1.form
 go_wp2_with fail
 have d0:=hi1.num.raw
 (with_reducible refine (mP _ (((q)).num) _ d0 (by omega)).mono ?_)
 rintro e w2 ⟨rfl,hb2⟩
 have a0:=(Below.tr (Below.tr (Below.tr aX hA1) hb1) hb2)
 go_wp2_with fail
 go_ret
 exact ⟨rfl,a0⟩
theorem UJ (v:Value) (q:Rat) (w:World) (fa:RQ w v q) (hl:rsz q≤999999999) :
  Calls Tryz.prog 111 #[v] w (GQ (-q) w):=by
 obtain ⟨b,p,n,c,d,o,m,e,rfl⟩:=fa.form
 have hb1:=dI q
 have hb2:=bZ q
 have aX:Below w.heap.size w w:=Below.refl _ _
 go_enter Tryz.func111,Tryz.ntmps111
 go_wp2_with fail
 obtain ⟨hA1,m0,n0⟩:=bx2 w rfl [.bool b,.slice p n c,.bool d,.slice o m e] 30 [.bool false,.slice none 0 0,.bool false,.slice none 0 0] 30
 have p0:=(fa.below hA1)
 (with_reducible refine (mQ _ (q) _ p0 (by omega)).mono ?_)
 rintro e w1 ⟨v1,rfl,hi1,hb1⟩
 obtain ⟨g1,p1,n1,c1,h1,o1,m1,e1,rfl⟩:=hi1.form
 have bF:=(m0.to hb1)
 have i0:=(bF).1
 have dD:=(n0.to hb1)
 have j0:=(dD).1
 go_wp2_with fail
 obtain ⟨hA2,o0⟩:=bx1 w1 rfl [.bool g1,.slice p1 n1 c1,.bool h1,.slice o1 m1 e1] 30
 have LW:=(o0.drew).bs4
 have k0:dB (w.heap.size+1) (BS4 w1.heap.size (.bool g1) (.slice p1 n1 c1) (.bool h1) (.slice o1 m1 e1)):=(BS4.hc (by omega))
 have tk1:True:=trivial
 go_region_held3 (BS4 w1.heap.size (.bool g1) (.slice p1 n1 c1) (.bool h1) (.slice o1 m1 e1)) (first | with_reducible exact LW | with_reducible exact fV.go BS4.hk (by assumption) (by assumption) | with_reducible exact dB.go4 k0 (by assumption) | (simp;done))
  (first
   | (((have:=tk1);clear tk1;have q0:=(hi1.below hA2).drew.num.raw;go_at_call 126;(with_reducible refine (EZ _ (((q)).num) _ q0 (by omega)).mono ?_);rintro e w2 ⟨v2,rfl,hi2,hb2⟩;obtain ⟨g2,p2,n2,c2,rfl⟩:=hi2.form;have bJ:=((dD.to hA2).drew.to hb2);obtain ⟨a0,e0,b0,f0,c0,g0,d0,h0⟩:=bJ.cf4)))
 have r0:=((hi1.below hA2).drew.below hb2)
 have l0:=(Below.tr (Below.tr (Below.tr (Below.tr aX hA1) hb1) hA2).drew hb2)
 go_wp2_with fail
 exact bodyPost_ret (v:=.agg #[.bool g2,.slice p2 n2 c2,.bool h1,.slice o1 m1 e1]) (by simp [results,Tryz.results111,go_sem,i0,j0,a0,e0,b0,f0,c0,g0,d0,h0]) rfl ⟨_,rfl,RQ.mk' (hi2.aQ bJ rfl rfl rfl rfl (.bool g2) (.slice p2 n2 c2) (.bool h1) (.slice o1 m1 e1)) (r0.aQ bJ rfl rfl rfl rfl (.bool g2) (.slice p2 n2 c2) (.bool h1) (.slice o1 m1 e1)).den (yX q).symm (by rw [JX]),(Below.aQ l0 (b:=w.heap.size+1) (by omega) (.bool g2) (.slice p2 n2 c2) (.bool h1) (.slice o1 m1 e1))⟩
theorem UH (v u:Value) (x y:Rat) (w:World) (fa:RQ w v x) (fb:RQ w u y) (hl:rsz x≤190000000) (hl2:rsz y≤190000000) :
  Calls Tryz.prog 43 #[v,u] w (GQ (x+y) w):=by
 obtain ⟨b,p,n,c,d,o,m,e,rfl⟩:=fa.form
 obtain ⟨f,i,j,k,g,r,t,a,rfl⟩:=fb.form
 have hb1:=dI x
 have hb2:=bZ x
 have hb3:=dI y
 have hb4:=bZ y
 have hc1:=dW x.num y.den
 have hc2:=dW y.num x.den
 have hc3:=KW (x.num * y.den) (y.num * x.den)
 have hc4:=dW x.den y.den
 have HX:=Lib.hid (XI x y)
 have hd0:=vX x y
 have aX:Below w.heap.size w w:=Below.refl _ _
 go_enter Tryz.func43,Tryz.ntmps43
 go_wp2_with fail
 obtain ⟨hA1,v0,w0,x0⟩:=bx3 w rfl [.bool b,.slice p n c,.bool d,.slice o m e] 30 [.bool f,.slice i j k,.bool g,.slice r t a] 30 [.bool false,.slice none 0 0,.bool false,.slice none 0 0] 30
 have a1:=(fa.below hA1)
 (with_reducible refine (mQ _ (x) _ a1 (by omega)).mono ?_)
 rintro e w1 ⟨v1,rfl,hi1,hb1⟩
 obtain ⟨g1,p1,n1,c1,h1,o1,m1,e1,rfl⟩:=hi1.form
 have dD:=(w0.to hb1)
 obtain ⟨a2,b2,d2,f2⟩:=dD.cs4
 have bF:=(v0.to hb1)
 have j0:=(bF).1
 have l0:=(dD).1
 have CV:=(x0.to hb1)
 have n0:=(CV).1
 go_wp2_with fail
 have a4Z:=((fb.below hA1).below hb1)
 obtain ⟨hA2,y0⟩:=bx1 w1 rfl [.bool g1,.slice p1 n1 c1,.bool h1,.slice o1 m1 e1] 30
 have b1:=(a4Z.below hA2)
 (with_reducible refine (mQ _ (y) _ b1 (by omega)).mono ?_)
 rintro e w2 ⟨v2,rfl,hi2,hb2⟩
 obtain ⟨g2,p2,n2,c2,h2,o2,m2,e2,rfl⟩:=hi2.form
 have bV:=((bF.to hA2).to hb2)
 have k0:=(bV).1
 have bJ:=((dD.to hA2).to hb2)
 have m0:=(bJ).1
 have kS:=((CV.to hA2).to hb2)
 have o0:=(kS).1
 have s0:=(y0.to hb2)
 have i0:=(s0).1
 go_wp2_with fail
 obtain ⟨hA3,z0⟩:=bx1 w2 rfl [.bool g2,.slice p2 n2 c2,.bool h2,.slice o2 m2 e2] 30
 have a6l:=(aN.mk ((s0.to hA3).drew).bs4 (z0.drew).bs4)
 have t0:dB (w.heap.size+1+1) (aN (BS4 w1.heap.size (.bool g1) (.slice p1 n1 c1) (.bool h1) (.slice o1 m1 e1)) (BS4 w2.heap.size (.bool g2) (.slice p2 n2 c2) (.bool h2) (.slice o2 m2 e2))):=(aN.hc (BS4.hc (by omega)) (BS4.hc (by omega)))
 have tk1:True:=trivial
 have tk2:True:=trivial
 have tk3:True:=trivial
 have tk4:True:=trivial
 have tk5:True:=trivial
 go_region_held3 (aN (BS4 w1.heap.size (.bool g1) (.slice p1 n1 c1) (.bool h1) (.slice o1 m1 e1)) (BS4 w2.heap.size (.bool g2) (.slice p2 n2 c2) (.bool h2) (.slice o2 m2 e2))) (first | with_reducible exact a6l | with_reducible exact fV.go (aN.hk BS4.hk BS4.hk) (by assumption) (by assumption) | with_reducible exact dB.go4 t0 (by assumption) | (simp;done))
  (first
   | (((have:=tk1);clear tk1;have p0:=((hi1.below hA2).below hb2);have d1:=(p0.below hA3).drew.num.raw;have f1:=(hi2.below hA3).drew.den.raw;go_at_call 88;(with_reducible refine (nP _ _ (((x)).num) ((((y)).den:Int)) _ d1 f1 (by omega) (by omega)).mono ?_);rintro e w3 ⟨v3,rfl,hi3,hb3⟩;obtain ⟨g3,p3,n3,c3,rfl⟩:=hi3.form))
   | (((have:=tk2);clear tk2;have r0:=((hi2.below hA3).drew.below hb3);have i1:=r0.num.raw;have q0:=((p0.below hA3).drew.below hb3);have j1:=q0.den.raw;go_at_call 88;(with_reducible refine (nP _ _ (((y)).num) ((((x)).den:Int)) _ i1 j1 (by omega) (by omega)).mono ?_);rintro e w4 ⟨v4,rfl,hi4,hb4⟩;obtain ⟨g4,p4,n4,c4,rfl⟩:=hi4.form))
   | (((have:=tk3);clear tk3;have y1:=(hi3.below hb4);have k1:=y1.raw;have l1:=hi4.raw;go_at_call 87;(with_reducible refine (a0B _ _ ((((x)).num) * ((((y)).den:Int))) ((((y)).num) * ((((x)).den:Int))) _ k1 l1 (by omega) (by omega)).mono ?_);rintro e w5 ⟨v5,rfl,hi5,hb5⟩;obtain ⟨g5,p5,n5,c5,rfl⟩:=hi5.form))
   | (((have:=tk4);clear tk4;have u1:=((q0.below hb4).below hb5);have q1:=u1.den.raw;have x1:=((r0.below hb4).below hb5);have r1:=x1.den.raw;go_at_call 88;(with_reducible refine (nP _ _ ((((x)).den:Int)) ((((y)).den:Int)) _ q1 r1 (by omega) (by omega)).mono ?_);rintro e w6 ⟨v6,rfl,hi6,hb6⟩;obtain ⟨g6,p6,n6,c6,rfl⟩:=hi6.form))
   | (((have:=tk5);clear tk5;have z1:=(hi5.below hb6);have s1:=z1;have t1:=hi6;go_at_call 86;(with_reducible refine (uO _ _ (((((x)).num) * ((((y)).den:Int)))+((((y)).num) * ((((x)).den:Int)))) (((((x)).den:Int)) * ((((y)).den:Int))) _ s1 t1 (by omega) (by omega) hd0).mono ?_);rintro e w7 ⟨v7,rfl,hi7,hb7⟩;obtain ⟨g7,p7,n7,c7,h7,o7,m7,e7,rfl⟩:=hi7.form;have a8k:=((((((kS.to hA3).drew.to hb3).to hb4).to hb5).to hb6).to hb7);obtain ⟨a0,e0,b0,f0,c0,g0,d0,h0⟩:=a8k.cf4)))
 have u0:=(Below.tr (Below.tr (Below.tr (Below.tr (Below.tr (Below.tr (Below.tr (Below.tr (Below.tr (Below.tr aX hA1) hb1) hA2) hb2) hA3).drew hb3) hb4) hb5) hb6) hb7)
 go_wp2_with fail
 exact bodyPost_ret (v:=.agg #[.bool g7,.slice p7 n7 c7,.bool h7,.slice o7 m7 e7]) (by simp [results,Tryz.results43,go_sem,j0,l0,n0,k0,m0,o0,i0,a0,e0,b0,f0,c0,g0,d0,h0]) rfl ⟨_,rfl,by rw [← HX.out];exact (hi7.aQ a8k rfl rfl rfl rfl (.bool g7) (.slice p7 n7 c7) (.bool h7) (.slice o7 m7 e7)),(Below.aQ u0 (b:=w.heap.size+1+1) (by omega) (.bool g7) (.slice p7 n7 c7) (.bool h7) (.slice o7 m7 e7))⟩
theorem a5I (v u:Value) (x y:Rat) (w:World) (fa:RQ w v x) (fb:RQ w u y) (hl:rsz x≤190000000) (hl2:rsz y≤190000000) :
  Calls Tryz.prog 44 #[v,u] w (GQ (x * y) w):=by
 obtain ⟨b,p,n,c,d,o,m,e,rfl⟩:=fa.form
 obtain ⟨f,i,j,k,g,r,t,a,rfl⟩:=fb.form
 have hb1:=dI x
 have hb2:=bZ x
 have hb3:=dI y
 have hb4:=bZ y
 have hc1:=dW x.num y.num
 have hc4:=dW x.den y.den
 have HX:=Lib.hid (XJ x y)
 have hd0:=vX x y
 have aX:Below w.heap.size w w:=Below.refl _ _
 go_enter Tryz.func44,Tryz.ntmps44
 go_wp2_with fail
 obtain ⟨hA1,t0,u0,v0⟩:=bx3 w rfl [.bool b,.slice p n c,.bool d,.slice o m e] 30 [.bool f,.slice i j k,.bool g,.slice r t a] 30 [.bool false,.slice none 0 0,.bool false,.slice none 0 0] 30
 have y0:=(fa.below hA1)
 (with_reducible refine (mQ _ (x) _ y0 (by omega)).mono ?_)
 rintro e w1 ⟨v1,rfl,hi1,hb1⟩
 obtain ⟨g1,p1,n1,c1,h1,o1,m1,e1,rfl⟩:=hi1.form
 have dD:=(u0.to hb1)
 obtain ⟨r1,s1,t1,u1⟩:=dD.cs4
 have bF:=(t0.to hb1)
 have j0:=(bF).1
 have l0:=(dD).1
 have CV:=(v0.to hb1)
 have n0:=(CV).1
 go_wp2_with fail
 have a4Z:=((fb.below hA1).below hb1)
 obtain ⟨hA2,w0⟩:=bx1 w1 rfl [.bool g1,.slice p1 n1 c1,.bool h1,.slice o1 m1 e1] 30
 have z0:=(a4Z.below hA2)
 (with_reducible refine (mQ _ (y) _ z0 (by omega)).mono ?_)
 rintro e w2 ⟨v2,rfl,hi2,hb2⟩
 obtain ⟨g2,p2,n2,c2,h2,o2,m2,e2,rfl⟩:=hi2.form
 have bV:=((bF.to hA2).to hb2)
 have k0:=(bV).1
 have bJ:=((dD.to hA2).to hb2)
 have m0:=(bJ).1
 have kS:=((CV.to hA2).to hb2)
 have o0:=(kS).1
 have q0:=(w0.to hb2)
 have i0:=(q0).1
 go_wp2_with fail
 obtain ⟨hA3,x0⟩:=bx1 w2 rfl [.bool g2,.slice p2 n2 c2,.bool h2,.slice o2 m2 e2] 30
 have a6l:=(aN.mk ((q0.to hA3).drew).bs4 (x0.drew).bs4)
 have r0:dB (w.heap.size+1+1) (aN (BS4 w1.heap.size (.bool g1) (.slice p1 n1 c1) (.bool h1) (.slice o1 m1 e1)) (BS4 w2.heap.size (.bool g2) (.slice p2 n2 c2) (.bool h2) (.slice o2 m2 e2))):=(aN.hc (BS4.hc (by omega)) (BS4.hc (by omega)))
 have tk1:True:=trivial
 have tk2:True:=trivial
 have tk3:True:=trivial
 go_region_held3 (aN (BS4 w1.heap.size (.bool g1) (.slice p1 n1 c1) (.bool h1) (.slice o1 m1 e1)) (BS4 w2.heap.size (.bool g2) (.slice p2 n2 c2) (.bool h2) (.slice o2 m2 e2))) (first | with_reducible exact a6l | with_reducible exact fV.go (aN.hk BS4.hk BS4.hk) (by assumption) (by assumption) | with_reducible exact dB.go4 r0 (by assumption) | (simp;done))
  (first
   | (((have:=tk1);clear tk1;have p0:=((hi1.below hA2).below hb2);have a1:=(p0.below hA3).drew.num.raw;have b1:=(hi2.below hA3).drew.num.raw;go_at_call 88;(with_reducible refine (nP _ _ (((x)).num) (((y)).num) _ a1 b1 (by omega) (by omega)).mono ?_);rintro e w3 ⟨v3,rfl,hi3,hb3⟩;obtain ⟨g3,p3,n3,c3,rfl⟩:=hi3.form))
   | (((have:=tk2);clear tk2;have k1:=((p0.below hA3).drew.below hb3);have d1:=k1.den.raw;have l1:=((hi2.below hA3).drew.below hb3);have f1:=l1.den.raw;go_at_call 88;(with_reducible refine (nP _ _ ((((x)).den:Int)) ((((y)).den:Int)) _ d1 f1 (by omega) (by omega)).mono ?_);rintro e w4 ⟨v4,rfl,hi4,hb4⟩;obtain ⟨g4,p4,n4,c4,rfl⟩:=hi4.form))
   | (((have:=tk3);clear tk3;have q1:=(hi3.below hb4);have i1:=q1;have j1:=hi4;go_at_call 86;(with_reducible refine (uO _ _ ((((x)).num) * (((y)).num)) (((((x)).den:Int)) * ((((y)).den:Int))) _ i1 j1 (by omega) (by omega) hd0).mono ?_);rintro e w5 ⟨v5,rfl,hi5,hb5⟩;obtain ⟨g5,p5,n5,c5,h5,o5,m5,e5,rfl⟩:=hi5.form;have yV:=((((kS.to hA3).drew.to hb3).to hb4).to hb5);obtain ⟨a0,e0,b0,f0,c0,g0,d0,h0⟩:=yV.cf4)))
 have s0:=(Below.tr (Below.tr (Below.tr (Below.tr (Below.tr (Below.tr (Below.tr (Below.tr aX hA1) hb1) hA2) hb2) hA3).drew hb3) hb4) hb5)
 go_wp2_with fail
 exact bodyPost_ret (v:=.agg #[.bool g5,.slice p5 n5 c5,.bool h5,.slice o5 m5 e5]) (by simp [results,Tryz.results44,go_sem,j0,l0,n0,k0,m0,o0,i0,a0,e0,b0,f0,c0,g0,d0,h0]) rfl ⟨_,rfl,by rw [← HX.out];exact (hi5.aQ yV rfl rfl rfl rfl (.bool g5) (.slice p5 n5 c5) (.bool h5) (.slice o5 m5 e5)),(Below.aQ s0 (b:=w.heap.size+1+1) (by omega) (.bool g5) (.slice p5 n5 c5) (.bool h5) (.slice o5 m5 e5))⟩
theorem a5O (v u:Value) (x y:Rat) (w:World) (fa:RQ w v x) (fb:RQ w u y) (hl:rsz x≤190000000) (hl2:rsz y≤190000000) :
  Calls Tryz.prog 78 #[v,u] w (GQ (x - y) w):=by
 obtain ⟨b,p,n,c,d,o,m,e,rfl⟩:=fa.form
 obtain ⟨f,i,j,k,g,r,t,a,rfl⟩:=fb.form
 have hb1:=dI x
 have hb2:=bZ x
 have hb3:=dI y
 have hb4:=bZ y
 have hc5:rsz (-y)≤190000000:=by rw [LJ];exact hl2
 have aX:Below w.heap.size w w:=Below.refl _ _
 go_enter Tryz.func78,Tryz.ntmps78
 go_wp2_with fail
 obtain ⟨hA1,l0,m0,i0⟩:=bx3 w rfl [.bool b,.slice p n c,.bool d,.slice o m e] 30 [.bool f,.slice i j k,.bool g,.slice r t a] 30 [.bool false,.slice none 0 0,.bool false,.slice none 0 0] 30
 have vM:=(aN.mk (l0.drew).bs4 (aN.mk (m0.drew).bs4 (BN.of (i0.drew))))
 have j0:dB (w.heap.size+1+1) (aN (BS4 w.heap.size (.bool b) (.slice p n c) (.bool d) (.slice o m e)) (aN (BS4 (w.heap.size+1) (.bool f) (.slice i j k) (.bool g) (.slice r t a)) (BN (w.heap.size+1+1)))):=(aN.hc (BS4.hc (by omega)) (aN.hc (BS4.hc (by omega)) BN.hc))
 have tk1:True:=trivial
 have tk2:True:=trivial
 go_region_held3 (aN (BS4 w.heap.size (.bool b) (.slice p n c) (.bool d) (.slice o m e)) (aN (BS4 (w.heap.size+1) (.bool f) (.slice i j k) (.bool g) (.slice r t a)) (BN (w.heap.size+1+1)))) (first | with_reducible exact vM | with_reducible exact fV.go (aN.hk BS4.hk (aN.hk BS4.hk BN.hk)) (by assumption) (by assumption) | with_reducible exact dB.go4 j0 (by assumption) | (simp;done))
  (first
   | (((have:=tk1);clear tk1;have n0:=(fb.below hA1).drew;go_at_call 111;(with_reducible refine (UJ _ (y) _ n0 (by omega)).mono ?_);rintro e w1 ⟨v1,rfl,hi1,hb1⟩;obtain ⟨g1,p1,n1,c1,h1,o1,m1,e1,rfl⟩:=hi1.form))
   | (((have:=tk2);clear tk2;have b1q:=((fa.below hA1).drew.below hb1);have o0:=b1q;have p0:=hi1;go_at_call 43;(with_reducible refine (UH _ _ (x) (-(y)) _ o0 p0 hl hc5).mono ?_);rintro e w2 ⟨v2,rfl,hi2,hb2⟩;obtain ⟨g2,p2,n2,c2,h2,o2,m2,e2,rfl⟩:=hi2.form;have kS:=((i0.drew.to hb1).to hb2);obtain ⟨a0,e0,b0,f0,c0,g0,d0,h0⟩:=kS.cf4)))
 have k0:=(Below.tr (Below.tr (Below.tr aX hA1).drew hb1) hb2)
 go_wp2_with fail
 exact bodyPost_ret (v:=.agg #[.bool g2,.slice p2 n2 c2,.bool h2,.slice o2 m2 e2]) (by simp [results,Tryz.results78,go_sem,a0,e0,b0,f0,c0,g0,d0,h0]) rfl ⟨_,rfl,by rw [Rat.sub_eq_add_neg];exact (hi2.aQ kS rfl rfl rfl rfl (.bool g2) (.slice p2 n2 c2) (.bool h2) (.slice o2 m2 e2)),(Below.aQ k0 (b:=w.heap.size+1+1) (by omega) (.bool g2) (.slice p2 n2 c2) (.bool h2) (.slice o2 m2 e2))⟩
theorem a8F (x y:Rat):sgn (x - y).num=sK x y:=by
 unfold sK
 have h1:=Rat.lt_iff (x - y) 0
 have h2:=Rat.lt_iff 0 (x - y)
 simp at h1 h2
 by_cases hx:x < y
 ·rw [if_pos hx,FC (h1.1 (by grind))]
 ·rw [if_neg hx]
  by_cases hy:y < x
  ·rw [if_pos hy,wJ (h2.1 (by grind))]
  ·rw [if_neg hy]
   have:x - y=0:=by grind
   rw [this];rfl
theorem RZ (v u:Value) (x y:Rat) (w:World) (fa:RQ w v x) (fb:RQ w u y) (hl:rsz x≤190000000) (hl2:rsz y≤190000000) :
  Calls Tryz.prog 23 #[v,u] w (fun e w'=>e=.returned (.int .i64 (sK x y))∧Below w.heap.size w w'):=by
 obtain ⟨b,p,n,c,d,o,m,e,rfl⟩:=fa.form
 obtain ⟨f,i,j,k,g,r,t,a,rfl⟩:=fb.form
 have hb1:=dI x
 have hb2:=bZ x
 have hb3:=dI y
 have hb4:=bZ y
 have hc5:=wI x y
 have aX:Below w.heap.size w w:=Below.refl _ _
 go_enter Tryz.func23,Tryz.ntmps23
 go_wp2_with fail
 obtain ⟨hA1,e0,f0⟩:=bx2 w rfl [.bool b,.slice p n c,.bool d,.slice o m e] 30 [.bool f,.slice i j k,.bool g,.slice r t a] 30
 have b0:=(fa.below hA1)
 have c0:=(fb.below hA1)
 (with_reducible refine (a5O _ _ (x) (y) _ b0 c0 hl hl2).mono ?_)
 rintro e w1 ⟨v1,rfl,hi1,hb1⟩
 obtain ⟨g1,p1,n1,c1,h1,o1,m1,e1,rfl⟩:=hi1.form
 go_wp2_with fail
 have d0:=hi1
 (with_reducible refine (a2E _ ((x) - (y)) _ d0 (by omega)).mono ?_)
 rintro e w2 ⟨rfl,hb2⟩
 have a0:=(Below.tr (Below.tr (Below.tr aX hA1) hb1) hb2)
 go_wp2_with fail
 go_ret
 exact ⟨fE (a8F x y),a0⟩
end Go.Proofs.YtidfgdchcpmnfaaGreat
namespace Go.Proofs.YtidfgdchcpmnfaaGreat
open Go.RowKit
set_option maxRecDepth 100000
set_option maxHeartbeats 4000000
set_option linter.unusedSimpArgs false
set_option linter.unusedVariables false
theorem UM (v u:Value) (x y:Rat) (w:World) (fa:RQ w v x) (fb:RQ w u y) (hl:rsz x≤190000000) (hl2:rsz y≤190000000) :
  Calls Tryz.prog 75 #[v,u] w (GB (decide (x=y)) w):=by
 have hn1:=fa.qn (k:=999999999) (by omega)
 have hn2:=fb.qn (k:=999999999) (by omega)
 obtain ⟨b,p,n,c,d,o,m,e,rfl⟩:=fa.form
 obtain ⟨f,i,j,k,g,r,t,a,rfl⟩:=fb.form
 have HX:Hid ((sK x y == 0)=decide (x=y)):=Lib.hid (by
  have:=zQ x y
  rw [Bool.eq_iff_iff]
  simp only [beq_iff_eq,decide_eq_true_eq]
  exact this)
 have aX:Below w.heap.size w w:=Below.refl _ _
 go_enter Tryz.func75,Tryz.ntmps75
 go_wp2_with fail
 obtain ⟨hA1,b0,c0⟩:=bx2 w rfl [.bool b,.slice p n c,.bool d,.slice o m e] 30 [.bool f,.slice i j k,.bool g,.slice r t a] 30
 have d0:=(fa.below hA1).raw
 (with_reducible refine (qB _ _ _ _ d0 hn1).mono ?_)
 rintro e w1 ⟨rfl,hb1⟩
 have dD:=(c0.to hb1)
 obtain ⟨l0,n0,p0,r0⟩:=dD.cs4
 go_wp2_with fail
 have a4Z:=((fb.below hA1).below hb1)
 have e0:=a4Z.raw
 (with_reducible refine (qB _ _ _ _ e0 hn2).mono ?_)
 rintro e w2 ⟨rfl,hb2⟩
 have bV:=((b0.to hb1).to hb2)
 obtain ⟨h0,i0,j0,k0⟩:=bV.cs4
 have bJ:=(dD.to hb2)
 obtain ⟨m0,o0,q0,s0⟩:=bJ.cs4
 go_wp2_with fail
 have b7f:=(((fa.below hA1).below hb1).below hb2)
 have f0:=b7f
 have b7g:=(a4Z.below hb2)
 have g0:=b7g
 (with_reducible refine (RZ _ _ (x) (y) _ f0 g0 hl hl2).mono ?_)
 rintro e w3 ⟨rfl,hb3⟩
 have a0:=(Below.tr (Below.tr (Below.tr (Below.tr aX hA1) hb1) hb2) hb3)
 go_wp2_with fail
 go_ret
 exact ⟨eU HX.out,a0⟩
theorem XO (v u:Value) (x y:Rat) (w:World) (fa:RQ w v x) (fb:RQ w u y) (hl:rsz x≤190000000) (hl2:rsz y≤190000000) :
  Calls Tryz.prog 21 #[v,u] w (GB (decide (x=y)) w):=by
 obtain ⟨b,p,n,c,d,o,m,e,rfl⟩:=fa.form
 obtain ⟨f,i,j,k,g,r,t,a,rfl⟩:=fb.form
 have aX:Below w.heap.size w w:=Below.refl _ _
 go_enter Tryz.func21,Tryz.ntmps21
 go_wp2_with fail
 obtain ⟨hA1,d0,e0⟩:=bx2 w rfl [.bool b,.slice p n c,.bool d,.slice o m e] 30 [.bool f,.slice i j k,.bool g,.slice r t a] 30
 have b0:=(fa.below hA1)
 have c0:=(fb.below hA1)
 (with_reducible refine (UM _ _ _ _ _ b0 c0 hl hl2).mono ?_)
 rintro e w1 ⟨rfl,hb1⟩
 have a0:=(Below.tr (Below.tr aX hA1) hb1)
 go_wp2_with fail
 go_ret
 exact ⟨rfl,a0⟩
end Go.Proofs.YtidfgdchcpmnfaaGreat
namespace Go.Proofs.YtidfgdchcpmnfaaGreat
open Go Go.RowKit
set_option maxRecDepth 100000
set_option maxHeartbeats 4000000
set_option linter.unusedSimpArgs false
set_option linter.unusedVariables false
def okc (x:Int):Prop:=-1048576≤x∧x≤1048576
instance (x:Int):Decidable (okc x):=by unfold okc;infer_instance
def dK (a b c d:Int):Int:=if a=0∧b=0∧c=0∧d=0 then 1 else if okc a∧okc b∧okc c∧okc d then 0 else 3
def aK (xs:Nat→Int):Nat→Int
 | 0=>0
 | k+1=>((Int.gcd (aK xs k) (xs k):Nat):Int)
def kF (xs:Nat→Int):Nat→Int
 | 0=>0
 | k+1=>if kF xs k=0 then xs k else kF xs k
theorem EC {xs:Nat→Int} {K:Nat}:∀ k,(∀ j,j < k→isz (xs j)≤K)→isz (aK xs k)≤K
 | 0,_=>by show isz 0≤K;rw [a0k];omega
 | k+1,h=>by
  have ih:=EC k (fun j hj=>h j (by omega))
  show isz ((Int.gcd (aK xs k) (xs k):Nat):Int)≤K
  by_cases hx:xs k=0
  ·rw [hx,Int.gcd_zero_right]
   have:isz (((aK xs k).natAbs:Nat):Int)=isz (aK xs k):=by unfold isz;simp
   omega
  ·exact oN hx (h k (by omega))
theorem a3F {xs:Nat→Int} {j:Nat} (hj:xs j ≠ 0):∀ k,j < k→aK xs k ≠ 0
 | 0,h=>by omega
 | k+1,h=>by
  show ((Int.gcd (aK xs k) (xs k):Nat):Int) ≠ 0
  intro e
  have e':Int.gcd (aK xs k) (xs k)=0:=by omega
  rw [Int.gcd_eq_zero_iff] at e'
  by_cases hk:j=k
  ·subst hk;exact hj e'.2
  ·exact a3F hj k (by omega) e'.1
theorem wK {x:Int}:sgn x=0 ↔ x=0:=by unfold sgn;exact Int.sign_eq_zero_iff_zero
def kC (xs:Nat→Int):Int:=if kF xs 4 < 0 then -aK xs 4 else aK xs 4
def dX (xs:Nat→Int) (k:Nat):Int:=(xs k).fdiv (kC xs)
def IL (xs:Nat→Int):Prop:=∀ k,k < 4→okc (dX xs k)
instance (xs:Nat→Int):Decidable (IL xs):=by unfold IL;infer_instance
theorem a0x {xs:Nat→Int} {j:Nat} (hj:j < 4) (h:xs j ≠ 0):kC xs ≠ 0:=by
 have:=a3F h 4 hj
 unfold kC
 split <;> omega
def xs4 (a b c d:Int):Nat→Int
 | 0=>a | 1=>b | 2=>c | _=>d
def nzB (q:Nat→Rat):Bool:=!allB 4 (fun i=>decide (q i=0))
theorem qO {x y:Int} (hy:y ≠ 0) (h:y ∣ x):isz (x.fdiv y)≤isz x:=by
 obtain ⟨z,rfl⟩:=h
 rw [Int.mul_fdiv_cancel_left _ hy]
 exact EJ (by rw [Int.natAbs_mul];exact Nat.le_mul_of_pos_left _ (Int.natAbs_pos.2 hy))
def qE (q:Nat→Rat):Int:=1 * ((q 0).den:Int) * ((q 1).den:Int) * ((q 2).den:Int) * ((q 3).den:Int)
def aW (q:Nat→Rat):Nat→Int:=fun k=>(q k).num * (qE q).fdiv ((q k).den:Int)
theorem EK {x:Int} (h0:-9223372036854775808≤x) (h1:x≤9223372036854775807):isz x≤400000000 :=
 Nat.le_trans (uM (k:=3) (by rw [bG];omega)) (by omega)
theorem rZ {a b c d:Int} (h:dK a b c d=0):¬ (a=0∧b=0∧c=0∧d=0)∧okc a∧okc b∧okc c∧okc d:=by
 unfold dK at h
 by_cases h1:a=0∧b=0∧c=0∧d=0
 ·rw [if_pos h1] at h;omega
 ·rw [if_neg h1] at h
  by_cases h2:okc a∧okc b∧okc c∧okc d
  ·exact ⟨h1,h2⟩
  ·rw [if_neg h2] at h;omega
theorem bP {x y:Int} (hx:okc x) (hy:okc y):-1099511627776≤x * y∧x * y≤1099511627776:=by
 unfold okc at hx hy
 have h1:(x * y).natAbs≤1048576 * 1048576:=by
  rw [Int.natAbs_mul]
  exact Nat.mul_le_mul (by omega) (by omega)
 omega
def fK (a b c d:Int):Int:=a * a+b * b+c * c+d * d
def nN (a b c d e f g h:Int):Int:=if dK a b c d=0 then dK e f g h else dK a b c d
def b0V (a b c d e f g h:Int):Nat→Int:=xs4 (a * e - b * f - c * g - d * h) (a * f+b * e+c * h - d * g) (a * g - b * h+c * e+d * f) (a * h+b * g - c * f+d * e)
theorem a5z (a b c d e f g h:Int):(a * e - b * f - c * g - d * h) * (a * e - b * f - c * g - d * h)+(a * f+b * e+c * h - d * g) * (a * f+b * e+c * h - d * g)+(a * g - b * h+c * e+d * f) * (a * g - b * h+c * e+d * f)+(a * h+b * g - c * f+d * e) * (a * h+b * g - c * f+d * e)=fK a b c d * fK e f g h:=by
 unfold fK;grind
theorem uY {a b c d:Int} (h:¬ (a=0∧b=0∧c=0∧d=0)):0 < fK a b c d:=by
 have s:∀ x:Int,0≤x * x:=fun x=>by
  rcases Int.le_total 0 x with h | h
  ·exact Int.mul_nonneg h h
  ·exact Int.mul_nonneg_of_nonpos_of_nonpos h h
 have p:∀ x:Int,x ≠ 0→0 < x * x:=fun x hx=>by
  rcases Int.lt_or_gt_of_ne hx with h | h
  ·exact Int.mul_pos_of_neg_of_neg h h
  ·exact Int.mul_pos h h
 unfold fK
 have:=s a;have:=s b;have:=s c;have:=s d
 by_cases ha:a=0
 ·by_cases hb:b=0
  ·by_cases hc:c=0
   ·have:=p d (fun hd=>h ⟨ha,hb,hc,hd⟩);omega
   ·have:=p c hc;omega
  ·have:=p b hb;omega
 ·have:=p a ha;omega
theorem b0f {a b c d e f g h:Int} (h1:¬ (a=0∧b=0∧c=0∧d=0)) (h2:¬ (e=0∧f=0∧g=0∧h=0)) :
  ¬ (a * e - b * f - c * g - d * h=0∧a * f+b * e+c * h - d * g=0∧a * g - b * h+c * e+d * f=0∧a * h+b * g - c * f+d * e=0):=fun ⟨k0,k1,k2,k3⟩=>by
 have:=a5z a b c d e f g h
 rw [k0,k1,k2,k3] at this
 have:=Int.mul_pos (uY h1) (uY h2)
 omega
theorem JR {a b c d:Int} (oa:okc a) (ob:okc b) (oc:okc c) (od:okc d):-8796093022208≤fK a b c d∧fK a b c d≤8796093022208:=by
 obtain ⟨p0,p1⟩:=bP oa oa
 obtain ⟨p2,p3⟩:=bP ob ob
 obtain ⟨p4,p5⟩:=bP oc oc
 obtain ⟨p6,p7⟩:=bP od od
 unfold fK;omega
def BI (a b c d e f g h:Int):Int:=a * e+b * f+c * g+d * h
theorem a2r {a b c d e f g h:Int} (oa:okc a) (ob:okc b) (oc:okc c) (od:okc d) (oe:okc e) (of:okc f) (og:okc g) (oh:okc h):-8796093022208≤BI a b c d e f g h∧BI a b c d e f g h≤8796093022208:=by
 obtain ⟨p0,p1⟩:=bP oa oe
 obtain ⟨p2,p3⟩:=bP ob of
 obtain ⟨p4,p5⟩:=bP oc og
 obtain ⟨p6,p7⟩:=bP od oh
 unfold BI;omega
def a1B (a b c d e f g h:Int):Rat:=((1:Int):Rat) - Rat.divInt (BI a b c d e f g h * BI a b c d e f g h) (fK a b c d * fK e f g h)
theorem a1Z {x:Int} (h0:-8796093022208≤x) (h1:x≤8796093022208):isz x≤2 :=
 uM (by rw [bG];omega)
def jZ (s:Nat→Int) (e:Nat→Nat→Rat):Nat→Rat
 | 0=>((1:Int):Rat)
 | k+1=>jZ s e k+((s k:Int):Rat) * e k k
theorem IJ {s:Nat→Int} {e:Nat→Nat→Rat} {K:Nat} (hs:∀ k,k < 3→rsz ((s k:Int):Rat)≤1) (he:∀ k,k < 3→rsz (e k k)≤K):∀ k,k≤3→rsz (jZ s e k)≤k * (K+2)+1
 | 0,_=>by
  show rsz ((1:Int):Rat)≤_
  have:rsz ((1:Int):Rat)≤1:=by decide +kernel
  omega
 | k+1,hk=>by
  have ih:=IJ hs he k (by omega)
  have a:=iW ((s k:Int):Rat) (e k k)
  have b:=AQ (jZ s e k) (((s k:Int):Rat) * e k k)
  have c:=hs k (by omega)
  have d:=he k (by omega)
  show rsz (jZ s e k+((s k:Int):Rat) * e k k)≤_
  rw [Nat.succ_mul]
  omega
theorem vV (q:Nat→Rat) {k:Nat} (hk:k < 4):((q k).den:Int) ∣ qE q:=by
 unfold qE
 have:k=0 ∨ k=1 ∨ k=2 ∨ k=3:=by omega
 rcases this with rfl | rfl | rfl | rfl
 ·exact Int.dvd_mul_of_dvd_left (Int.dvd_mul_of_dvd_left (Int.dvd_mul_of_dvd_left (Int.dvd_mul_left _ _)))
 ·exact Int.dvd_mul_of_dvd_left (Int.dvd_mul_of_dvd_left (Int.dvd_mul_left _ _))
 ·exact Int.dvd_mul_of_dvd_left (Int.dvd_mul_left _ _)
 ·exact Int.dvd_mul_left _ _
theorem a1C {q:Nat→Rat} {K:Nat} (h:∀ k,k < 4→rsz (q k)≤K):isz (qE q)≤4 * K+1:=by
 unfold qE
 have h0:=h 0 (by omega)
 have h1:=h 1 (by omega)
 have h2:=h 2 (by omega)
 have h3:=h 3 (by omega)
 have d0:=bZ (q 0)
 have d1:=bZ (q 1)
 have d2:=bZ (q 2)
 have d3:=bZ (q 3)
 have m0:=dW 1 ((q 0).den:Int)
 have m1:=dW (1 * ((q 0).den:Int)) ((q 1).den:Int)
 have m2:=dW (1 * ((q 0).den:Int) * ((q 1).den:Int)) ((q 2).den:Int)
 have m3:=dW (1 * ((q 0).den:Int) * ((q 1).den:Int) * ((q 2).den:Int)) ((q 3).den:Int)
 have z:isz 1≤1:=by decide +kernel
 omega
theorem JC {q:Nat→Rat} {K:Nat} (h:∀ k,k < 4→rsz (q k)≤K) {k:Nat} (hk:k < 4):isz (aW q k)≤5 * K+1:=by
 unfold aW
 have h1:=dW (q k).num ((qE q).fdiv ((q k).den:Int))
 have h2:=qO (x:=qE q) (y:=((q k).den:Int)) (by have:=(q k).den_nz;omega) (vV q hk)
 have h3:=a1C h
 have h4:=dI (q k)
 have h5:=h k hk
 omega
theorem a4M (q:Nat→Rat):qE q ≠ 0:=by
 unfold qE
 have h:∀ k,((q k).den:Int) ≠ 0:=fun k=>by have:=(q k).den_nz;omega
 exact Int.mul_ne_zero (Int.mul_ne_zero (Int.mul_ne_zero (Int.mul_ne_zero (by omega) (h 0)) (h 1)) (h 2)) (h 3)
theorem MP {q:Nat→Rat} {k:Nat} (hk:k < 4) (h:q k ≠ 0):aW q k ≠ 0:=by
 unfold aW
 refine Int.mul_ne_zero (fun e=>h (Rat.num_eq_zero.1 e)) (fun e=>?_)
 obtain ⟨z,hz⟩:=vV q hk
 have hd:((q k).den:Int) ≠ 0:=by have:=(q k).den_nz;omega
 rw [hz,Int.mul_fdiv_cancel_left _ hd] at e
 rw [e,Int.mul_zero] at hz
 exact a4M q hz
def dJ (q:Nat→Rat):Nat→Int
 | 0=>1
 | k+1=>dJ q k * ((q k).den:Int)
theorem MX {q:Nat→Rat} {K:Nat} (h:∀ k,k < 4→rsz (q k)≤K):∀ k,k≤4→isz (dJ q k)≤k * K+1
 | 0,_=>by
  show isz 1≤_
  have:isz 1≤1:=by decide +kernel
  omega
 | k+1,hk=>by
  have ih:=MX h k (by omega)
  have m:=dW (dJ q k) ((q k).den:Int)
  have a:=h k (by omega)
  have b:=bZ (q k)
  show isz (dJ q k * ((q k).den:Int))≤_
  rw [Nat.succ_mul]
  omega
def iC (e:Nat→Nat→Rat):Nat→Nat→Rat
 | 0=>fun | 0=>jZ (xs4 1 1 1 0) e 3 | 1=>e 2 1 - e 1 2 | 2=>e 0 2 - e 2 0 | _=>e 1 0 - e 0 1
 | 1=>fun | 0=>e 2 1 - e 1 2 | 1=>jZ (xs4 1 (-1) (-1) 0) e 3 | 2=>e 0 1+e 1 0 | _=>e 0 2+e 2 0
 | 2=>fun | 0=>e 0 2 - e 2 0 | 1=>e 0 1+e 1 0 | 2=>jZ (xs4 (-1) 1 (-1) 0) e 3 | _=>e 1 2+e 2 1
 | _=>fun | 0=>e 1 0 - e 0 1 | 1=>e 0 2+e 2 0 | 2=>e 1 2+e 2 1 | _=>jZ (xs4 (-1) (-1) 1 0) e 3
theorem a5r {e:Nat→Nat→Rat} {K:Nat} (h:∀ i j,i < 3→j < 3→rsz (e i j)≤K) (hK:K≤700000):∀ i k,k < 4→rsz (iC e i k)≤50000000:=by
 have hs:∀ x y z:Int,(x=1 ∨ x=-1)→(y=1 ∨ y=-1)→(z=1 ∨ z=-1)→rsz (jZ (xs4 x y z 0) e 3)≤50000000:=fun x y z hx hy hz=>by
  have u:∀ x:Int,(x=1 ∨ x=-1)→rsz ((x:Int):Rat)≤1:=fun x hx=>by rcases hx with e | e <;> rw [e] <;> decide +kernel
  have:=IJ (s:=xs4 x y z 0) (e:=e) (K:=K) (fun k hk=>by
   obtain rfl | rfl | rfl:k=0 ∨ k=1 ∨ k=2:=by omega
   ·exact u x hx
   ·exact u y hy
   ·exact u z hz) (fun k hk=>h k k hk hk) 3 (by omega)
  omega
 have hm:∀ i j,i < 3→j < 3→rsz (e i j - e j i)≤50000000:=fun i j hi hj=>by have:=wI (e i j) (e j i);have:=h i j hi hj;have:=h j i hj hi;omega
 have hp:∀ i j,i < 3→j < 3→rsz (e i j+e j i)≤50000000:=fun i j hi hj=>by have:=AQ (e i j) (e j i);have:=h i j hi hj;have:=h j i hj hi;omega
 intro i k hk
 obtain rfl | rfl | rfl | rfl:k=0 ∨ k=1 ∨ k=2 ∨ k=3:=by omega
 all_goals
  match i with
  | 0=>first | exact hs _ _ _ (by omega) (by omega) (by omega) | exact hm _ _ (by omega) (by omega) | exact hp _ _ (by omega) (by omega)
  | 1=>first | exact hs _ _ _ (by omega) (by omega) (by omega) | exact hm _ _ (by omega) (by omega) | exact hp _ _ (by omega) (by omega)
  | 2=>first | exact hs _ _ _ (by omega) (by omega) (by omega) | exact hm _ _ (by omega) (by omega) | exact hp _ _ (by omega) (by omega)
  | _+3=>first | exact hs _ _ _ (by omega) (by omega) (by omega) | exact hm _ _ (by omega) (by omega) | exact hp _ _ (by omega) (by omega)
def dQ (a b c d:Int):Nat→Nat→Int
 | 0=>fun | 0=>a * a+b * b - c * c - d * d | 1=>2 * (b * c - a * d) | _=>2 * (b * d+a * c)
 | 1=>fun | 0=>2 * (b * c+a * d) | 1=>a * a - b * b+c * c - d * d | _=>2 * (c * d - a * b)
 | _=>fun | 0=>2 * (b * d - a * c) | 1=>2 * (c * d+a * b) | _=>a * a - b * b - c * c+d * d
def qA (a b c d:Int) (i j:Nat):Rat:=Rat.divInt (dQ a b c d i j) (fK a b c d)
theorem a2C {a b c d:Int} (oa:okc a) (ob:okc b) (oc:okc c) (od:okc d) {i j:Nat} (hi:i < 3) (hj:j < 3):-8796093022208≤dQ a b c d i j∧dQ a b c d i j≤8796093022208:=by
 obtain ⟨b7Q,b7R⟩:=bP oa oa
 obtain ⟨b7S,b7T⟩:=bP oa ob
 obtain ⟨b7U,b7V⟩:=bP oa oc
 obtain ⟨b7W,b7X⟩:=bP oa od
 obtain ⟨b7Y,b7Z⟩:=bP ob ob
 obtain ⟨b8a,b8b⟩:=bP ob oc
 obtain ⟨b8c,b8d⟩:=bP ob od
 obtain ⟨b8e,b8f⟩:=bP oc oc
 obtain ⟨b8g,b8h⟩:=bP oc od
 obtain ⟨b8i,b8j⟩:=bP od od
 obtain rfl | rfl | rfl:i=0 ∨ i=1 ∨ i=2:=by omega
 all_goals
  obtain rfl | rfl | rfl:j=0 ∨ j=1 ∨ j=2:=by omega
  all_goals
   simp only [dQ]
   omega
theorem NZ {xs:Nat→Int}:∀ k j,j < k→aK xs k ∣ xs j
 | 0,j,h=>by omega
 | k+1,j,h=>by
  show ((Int.gcd (aK xs k) (xs k):Nat):Int) ∣ xs j
  by_cases e:j=k
  ·subst e;exact Int.gcd_dvd_right ..
  ·exact Int.dvd_trans (Int.gcd_dvd_left ..) (NZ k j (by omega))
theorem a5x {xs:Nat→Int} {j:Nat} (hj:j < 4):kC xs ∣ xs j:=by
 unfold kC
 split
 ·exact Int.neg_dvd.2 (NZ 4 j hj)
 ·exact NZ 4 j hj
end Go.Proofs.YtidfgdchcpmnfaaGreat
namespace Go.Proofs.YtidfgdchcpmnfaaGreat
open Go Go.RowKit
set_option linter.unusedSimpArgs false
set_option linter.unusedVariables false
set_option maxRecDepth 20000
theorem jC {G:Prop} (V:Prop) (h:V=G) (v:V):G:=h ▸ v
abbrev asT (α:Type) (x:α):α:=x
abbrev aU (α:Type):List α:=[]
abbrev aF (n:Nat):Int:=(n:Int)
abbrev lM (n:Int):Rat:=(n:Rat)
abbrev aA.{u} {α:Sort u} {p:α→Prop} (x:Subtype p):α:=x.1
abbrev tB:Ty:=.bool
abbrev nR:Ty:=.pair tI (.pair tI (.pair tI (.pair tI .unit)))
abbrev tM:Ty:=.list (.list tQ)
def cHI (pre:Int→Int→Int→Int→Prop) (g:Int→Int→Int→Int→Int):Ctr:=⟨[nR],[tI],fun x=>pre x.1.1 x.1.2.1 x.1.2.2.1 x.1.2.2.2.1,fun x=>(g x.1.1 x.1.2.1 x.1.2.2.1 x.1.2.2.2.1,())⟩
abbrev QC4:Type:=(Int × Int × Int × Int × Unit) × Int × Unit
def cHQ (pre:Int→Int→Int→Int→Prop) (g:Int→Int→Int→Int→QC4):Ctr:=⟨[nR],[nR,tI],fun x=>pre x.1.1 x.1.2.1 x.1.2.2.1 x.1.2.2.2.1,fun x=>g x.1.1 x.1.2.1 x.1.2.2.1 x.1.2.2.2.1⟩
def b1i (g:Int→Int→Int→Int→Int→Int→Int→Int→QC4):Ctr:=⟨[nR,nR],[nR,tI],fun x=>True,fun x=>g x.1.1 x.1.2.1 x.1.2.2.1 x.1.2.2.2.1 x.2.1.1 x.2.1.2.1 x.2.1.2.2.1 x.2.1.2.2.2.1⟩
def b1j (pre:Rat→Rat→Prop) (g:Rat→Rat→Bool):Ctr:=⟨[tQ,tQ],[tB],fun x=>pre x.1 x.2.1,fun x=>(g x.1 x.2.1,())⟩
theorem a3n {f:FuncId} {pre:Rat→Rat→Prop} {g:Rat→Rat→Bool} (h:∀ (v u:Value) (x y:Rat) (w:World),RQ w v x→RQ w u y→pre x y→Calls Tryz.prog f #[v,u] w (GB (g x y) w)):dL Tryz.prog f (b1j pre g):=by
 intro F w vs x hF hvs hp
 obtain ⟨v,vs',rfl,h1,u,vs'',rfl,h2,h3⟩:=hvs
 have h3:vs''=[]:=h3
 subst h3
 refine (h v u x.1 x.2.1 w (vC h1) (vC h2) hp).mono ?_
 rintro e w' ⟨rfl,hb⟩
 exact ⟨_,rfl,QT _,hb⟩
def b5D (pre:Rat→Rat→Prop) (g:Rat→Rat→Int):Ctr:=⟨[tQ,tQ],[tI],fun x=>pre x.1 x.2.1,fun x=>(g x.1 x.2.1,())⟩
theorem a9g {f:FuncId} {pre:Rat→Rat→Prop} {g:Rat→Rat→Int} (h:∀ (v u:Value) (x y:Rat) (w:World),RQ w v x→RQ w u y→pre x y→Calls Tryz.prog f #[v,u] w (fun e w'=>e=.returned (.int .i64 (g x y))∧Below w.heap.size w w')):dL Tryz.prog f (b5D pre g):=by
 intro F w vs x hF hvs hp
 obtain ⟨v,vs',rfl,h1,u,vs'',rfl,h2,h3⟩:=hvs
 have h3:vs''=[]:=h3
 subst h3
 refine (h v u x.1 x.2.1 w (vC h1) (vC h2) hp).mono ?_
 rintro e w' ⟨rfl,hb⟩
 exact ⟨_,rfl,tY _,hb⟩
def cQI (pre:Rat→Prop) (g:Rat→Int):Ctr:=⟨[tQ],[tI],fun x=>pre x.1,fun x=>(g x.1,())⟩
theorem b1k {f:FuncId} {pre:Rat→Prop} {g:Rat→Int} (h:∀ (v:Value) (x:Rat) (w:World),RQ w v x→pre x→Calls Tryz.prog f #[v] w (fun e w'=>e=.returned (.int .i64 (g x))∧Below w.heap.size w w')):dL Tryz.prog f (cQI pre g):=by
 intro F w vs x hF hvs hp
 obtain ⟨v,vs',rfl,h1,h3⟩:=hvs
 have h3:vs'=[]:=h3
 subst h3
 refine (h v x.1 w (vC h1) hp).mono ?_
 rintro e w' ⟨rfl,hb⟩
 exact ⟨_,rfl,tY _,hb⟩
def dN (i:Int):Prop:=-9223372036854775808≤i∧i≤9223372036854775807
def a6C:Ctr:=⟨[tI,tI],[tQ,tI],fun x=>dN x.1∧dN x.2.1∧(show Int from x.2.1) ≠ 0,fun x=>(Rat.divInt x.1 x.2.1,(0:Int),())⟩
theorem YU {f:FuncId} (h:∀ (i k:Int) (w:World),-9223372036854775808≤i→i≤9223372036854775807→-9223372036854775808≤k→k≤9223372036854775807→k ≠ 0→Calls Tryz.prog f #[.int .i64 i,.int .i64 k] w (GQC (Rat.divInt i k) 0 w)):dL Tryz.prog f a6C:=by
 intro F w vs x hF hvs hp
 obtain ⟨v,vs',rfl,h1,u,vs'',rfl,h2,h3⟩:=hvs
 have h3:vs''=[]:=h3
 subst h3
 rw [a0f h1,a0f h2]
 refine (h _ _ w hp.1.1 hp.1.2 hp.2.1.1 hp.2.1.2 hp.2.2).mono ?_
 rintro e w' ⟨r,rfl,hr,hb⟩
 exact ⟨_,rfl,⟨[_,_],rfl,_,_,rfl,a4w hr,_,_,rfl,tY _,rfl⟩,hb⟩
def cB (b:Bool):Ctr:=⟨[],[tB],fun x=>True,fun x=>(b,())⟩
def aY (xs:Nat→Int):QC4:=if IL xs then ((dX xs 0,dX xs 1,dX xs 2,dX xs 3,()),0,()) else ((0,0,0,0,()),3,())
def JG (a b c d:Int):QC4:=if dK a b c d=0 then aY (xs4 a (-b) (-c) (-d)) else ((0,0,0,0,()),dK a b c d,())
def uG (a b c d:Int):QC4:=if dK a b c d=0 then aY (xs4 a b c d) else ((0,0,0,0,()),dK a b c d,())
def RV (a b c d e f g h:Int):QC4:=if nN a b c d e f g h=0 then aY (b0V a b c d e f g h) else ((0,0,0,0,()),nN a b c d e f g h,())
noncomputable def LQ:Lib:=(((((((Lib.nil
 ).add 43 (cQ2 (fun x y=>rsz x≤190000000∧rsz y≤190000000) (·+·)) (MN fun v u x y w a b h=>UH v u x y w a b h.1 h.2)
 ).add 44 (cQ2 (fun x y=>rsz x≤190000000∧rsz y≤190000000) (· * ·)) (MN fun v u x y w a b h=>a5I v u x y w a b h.1 h.2)
 ).add 111 (cQ1 (fun x=>rsz x≤190000000) (fun x=>-x)) (a6H fun v x w a h=>UJ v x w a (by omega))
 ).add 47 a6C (YU fun i k w h0 h1 h2 h3 hk=>a8t i k w h0 h1 h2 h3 hk)
 ).add 75 (b1j (fun x y=>rsz x≤190000000∧rsz y≤190000000) (fun x y=>decide (x=y))) (a3n fun v u x y w a b h=>UM v u x y w a b h.1 h.2)
 ).add 21 (b1j (fun x y=>rsz x≤190000000∧rsz y≤190000000) (fun x y=>decide (x=y))) (a3n fun v u x y w a b h=>XO v u x y w a b h.1 h.2)
 ).add 64 a6C (YU fun i k w h0 h1 h2 h3 hk=>b0a i k w h0 h1 h2 h3 hk)
end Go.Proofs.YtidfgdchcpmnfaaGreat
namespace Go.Proofs.YtidfgdchcpmnfaaGreat
open Go Go.RowKit
set_option maxRecDepth 100000
set_option maxHeartbeats 400000
set_option linter.unusedVariables false
set_option linter.unusedSimpArgs false
abbrev QL:Type:=List Rat
abbrev QM:Type:=List (List Rat)
def zG (xs:QL):Prop:=∀ q ∈ xs,rsz q≤190000000
def a8J (m:QM):Prop:=∀ r ∈ m,zG r
theorem zG.at_ {xs:QL} (h:zG xs) (i:Nat):rsz (xs.getD i 0)≤190000000:=by
 by_cases hi:i < xs.length
 ·rw [List.getD_eq_getElem?_getD,List.getElem?_eq_getElem hi,Option.getD_some]
  exact h _ (List.getElem_mem hi)
 ·rw [List.getD_eq_getElem?_getD,List.getElem?_eq_none (by omega),Option.getD_none,QF];omega
theorem a8J.at_ {m:QM} (h:a8J m) (i:Nat):zG (m.getD i []):=by
 by_cases hi:i < m.length
 ·rw [List.getD_eq_getElem?_getD,List.getElem?_eq_getElem hi,Option.getD_some]
  exact h _ (List.getElem_mem hi)
 ·rw [List.getD_eq_getElem?_getD,List.getElem?_eq_none (by omega),Option.getD_none]
  intro q hq;cases hq
theorem a5Y {α:Type} {xs ys:List α} {i:Nat} (d:α) (h:xs.take i=ys.take i) (h1:i < xs.length) (h2:i < ys.length) (e:xs.getD i d=ys.getD i d):xs.take (i+1)=ys.take (i+1):=by
 rw [List.take_add_one,List.take_add_one,h]
 rw [List.getD_eq_getElem?_getD,List.getD_eq_getElem?_getD,List.getElem?_eq_getElem h1,List.getElem?_eq_getElem h2] at e
 rw [List.getElem?_eq_getElem h1,List.getElem?_eq_getElem h2]
 simp only [Option.getD_some] at e
 rw [e]
theorem fM {n:Int} (h0:-9223372036854775808≤n) (h1:n≤9223372036854775807):IntKind.wrap .i64 n=n:=by
 unfold IntKind.wrap
 simp only [IntKind.bits,IntKind.signed,Bool.true_and,decide_eq_true_eq,Nat.reduceSub,Int.reducePow,ge_iff_le]
 split <;> omega
abbrev b1d {α:Type} (xs ys:List α):Type:={i:Nat // xs.length=ys.length→i≤xs.length∧xs.take i=ys.take i}
def cSL:Ctr:=⟨[.list tQ,.list tQ],[tB],fun x=>zG x.1∧zG x.2.1∧(show QL from x.1).length≤1000000000,fun x=>((show QL from x.1) == (show QL from x.2.1),())⟩
theorem XV:dL Tryz.prog 121 cSL:=by
 refine gK LQ [] Tryz.func121 rfl (by decide) (fun x=>[.inv (b1d (α:=Rat) x.1 x.2.1) (fun i=>[(5,.val tI (i.1:Int))]) (fun i=>[]) (fun i=>(show QL from x.1).length+1 - i.1) ⟨0,fun h=>⟨Nat.zero_le _,rfl⟩⟩ (fun _=>[])]) (fun x hp=>?_)
 obtain ⟨x,y,u⟩:=x
 change QL at x
 change QL at y
 refine jC (ifB (aF (List.length x) != aF (List.length y)) (True∧false=(x == y)∧True) ((asT Int 0=aF 0∧True)∧∀ (i:b1d x y),asT Bool true=true∧ifB (decide (aF (aA i) < aF (List.length x))) ((0≤aF (aA i)∧aF (aA i) < aF (List.length x)∧0≤aF (aA i)∧aF (aA i) < aF (List.length y)∧(rsz (List.getD x (Int.toNat (aF (aA i))) 0)≤190000000∧rsz (List.getD y (Int.toNat (aF (aA i))) 0)≤190000000)∧True)∧ifB (!decide (List.getD x (Int.toNat (aF (aA i))) 0=List.getD y (Int.toNat (aF (aA i))) 0)) (True∧false=(x == y)∧True) (∃ (i':b1d x y),List.length x+1 - aA i' < List.length x+1 - aA i∧IntKind.wrap IntKind.i64 (aF (aA i)+1)=aF (aA i')∧True)) (True∧true=(x == y)∧True))) (by kernel_rfl) ?_
 obtain ⟨hx,hy,hl⟩:=hp
 dsimp only [aF,aA,asT] at *
 refine iH.2 ⟨fun h=>⟨trivial,?_,trivial⟩,fun h=>⟨⟨rfl,trivial⟩,fun i=>⟨rfl,iH.2 ⟨fun h1=>?_,fun h1=>⟨trivial,?_,trivial⟩⟩⟩⟩⟩
 ·simp only [bne_iff_ne,ne_eq,Int.natCast_inj] at h
  symm
  simp only [beq_eq_false_iff_ne]
  intro e;exact h (by rw [e])
 all_goals
  simp only [bne_eq_false_iff_eq,Int.natCast_inj] at h
  simp only [decide_eq_true_eq,decide_eq_false_iff_not,Int.ofNat_lt] at h1
  obtain ⟨i,hi⟩:=i
  obtain ⟨h2,h3⟩:=hi h
  dsimp only at h1 ⊢
 ·refine ⟨⟨by omega,by omega,by omega,by omega,⟨hx.at_ _,hy.at_ _⟩,trivial⟩,iH.2 ⟨fun h4=>⟨trivial,?_,trivial⟩,fun h4=>?_⟩⟩
  ·simp only [Bool.not_eq_true',decide_eq_false_iff_not,Int.toNat_natCast] at h4
   symm
   simp only [beq_eq_false_iff_ne]
   intro e;exact h4 (by rw [e])
  ·simp only [Bool.not_eq_false',decide_eq_true_eq,Int.toNat_natCast] at h4
   refine ⟨⟨i+1,fun _=>⟨h1,a5Y 0 h3 h1 (by omega) h4⟩⟩,by simp only;omega,?_,trivial⟩
   rw [fM (by omega) (by omega)];rfl
 ·symm
  simp only [beq_iff_eq]
  have:i=x.length:=by omega
  rw [this,List.take_length,h,List.take_length] at h3
  exact h3
noncomputable def b6U:Lib:=LQ.add 24 (cIQ dN (fun i=>(i:Rat))) (a6D fun x w h=>UG x w h.1 h.2)
noncomputable def LS1:Lib:=b6U.add 121 cSL XV
theorem XW:dL Tryz.prog 82 cSL:=by
 refine gK LS1 [] Tryz.func82 rfl (by decide) (fun x=>[]) (fun x hp=>?_)
 refine jC (((zG (asT (List Rat) (Prod.fst x))∧zG (asT (List Rat) (Prod.fst (Prod.snd x)))∧List.length (asT (List Rat) (Prod.fst x))≤1000000000)∧True)∧True∧(asT (List Rat) (Prod.fst x) == asT (List Rat) (Prod.fst (Prod.snd x)))=(asT (List Rat) (Prod.fst x) == asT (List Rat) (Prod.fst (Prod.snd x)))∧True) (by kernel_rfl) ?_
 obtain ⟨x,y,u⟩:=x
 change QL at x
 change QL at y
 exact ⟨⟨hp,trivial⟩,trivial,rfl,trivial⟩
noncomputable def LS2:Lib:=LS1.add 82 cSL XW
abbrev e2 (m:QM) (i j:Nat):Rat:=(m.getD i []).getD j 0
theorem nJ {α:Type} {p:α→Prop} {xs:List α} (h:∀ x ∈ xs,p x) {i:Nat} (hi:i < xs.length) {d:α}:p (xs.getD i d):=by
 rw [List.getD_eq_getElem?_getD,List.getElem?_eq_getElem hi]
 exact h _ (List.getElem_mem hi)
abbrev Le3:Type:={i:Nat // i≤3}
end Go.Proofs.YtidfgdchcpmnfaaGreat
