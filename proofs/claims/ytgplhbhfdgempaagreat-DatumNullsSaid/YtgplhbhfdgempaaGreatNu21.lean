/-
  Lemmas for the theorem vnulls_holds, part 21 of 36.
-/
import Derived.Test.YtgplhbhfdgempaaGreatNu01
import Derived.Test.YtgplhbhfdgempaaGreatNu06
import Derived.Test.YtgplhbhfdgempaaGreatNu20
namespace Go.Proofs.YtgplhbhfdgempaaGreat
open Go Go.RowKit
set_option maxRecDepth 100000
set_option maxHeartbeats 4000000
set_option linter.unusedSimpArgs false
set_option linter.unusedVariables false
def JU (x y:Rat):Int:=if x<y then -1 else if y<x then 1 else 0
theorem b0X (x y:Rat):dP (x.num*y.den) (y.num*x.den)=JU x y:=by
 unfold dP JU
 simp only[a3z]
theorem a2N (v u:Value) (o1 o2:Bool) (x y:Rat) (w:World) (h1:gQ w v o1 x) (h2:gQ w u o2 y) (n1:Qn v 400000000) (n2:Qn u 400000000) (hy:y≠0) :
  Calls Tryz.prog 173 #[v,u] w (GQC (x / y) 0 w):=by
 obtain⟨b,p,n,c,d,o,m,e,rfl⟩:=h1.form
 obtain⟨f,i,j,k,g,r,t,a,rfl⟩:=h2.form
 have hl:=h1.kF n1 (by omega)
 have hl2:=h2.kF n2 (by omega)
 have m1:=n1.up (show 400000000<=1000000000 by omega)
 have m2:=n2.up (show 400000000<=1000000000 by omega)
 have b1:=eF x
 have b2:=dX x
 have b3:=eF y
 have b4:=dX y
 have c1:=dY x.num y.den
 have c4:=dY x.den y.num
 have HX:=Lib.hid (ZM x y)
 have hn0:y.num≠0:=fun h=>hy ((xJ y).1 h)
 have hd0:(x.den:Int)*y.num≠0:=fun h=>by
  have:=x.den_nz
  rcases Int.mul_eq_zero.1 h with h|h<;>omega
 have b9t:(sgn y.num==0)=false:=by have:=b0b hn0;simpa using this
 clear hy hn0
 have bP:Below w.heap.size w w:=Below.refl _ _
 go_enter Tryz.func173,Tryz.ntmps173
 go_wp2_with fail
 obtain⟨hA1,y0,z0,j1⟩:=bx3 w rfl [.bool b,.slice p n c,.bool d,.slice o m e] 64 [.bool f,.slice i j k,.bool g,.slice r t a] 64 [.bool false,.slice none 0 0,.bool false,.slice none 0 0] 64
 obtain⟨f2,t2,j2,x2,l2,z2,r2,c3⟩:=y0.drew.cf4
 obtain⟨e3,q3,h3,s3,k3,u3,n3,x3⟩:=z0.drew.cf4
 have tk1:True:=trivial
 have tk2:True:=trivial
 go_region_with
  (first
   | (((have:=tk1);clear tk1;have k1:=(h1.below hA1).drew;go_at_call 119;(with_reducible refine(iZ _ _ (x) _ k1 m1).mono ?_);rintro e w1 ⟨v1,rfl,hi1,hb1⟩;obtain⟨g1,p1,n1,c1,h1,o1,m1,e1,rfl⟩:=hi1.form;have dQ:=(z0.drew.to hb1);obtain⟨f3,r3,i3,t3,l3,v3,o3,y3⟩:=dQ.cf4;have dK:=(y0.drew.to hb1);obtain⟨i2,u2,k2,y2,q2,a3,s2,d3⟩:=dK.cf4))
   | (((have:=tk2);clear tk2;have YM:=((h2.below hA1).drew.below hb1);have l1:=YM;go_at_call 119;(with_reducible refine(iZ _ _ (y) _ l1 m2).mono ?_);rintro e w2 ⟨v2,rfl,hi2,hb2⟩;obtain⟨g2,p2,n2,c2,h2,o2,m2,e2,rfl⟩:=hi2.form;have dG:=(dK.to hb2);obtain⟨a0,e0,b0,f0,c0,g0,d0,h0⟩:=dG.cf4;have dH:=(dQ.to hb2);obtain⟨i0,m0,j0,n0,k0,o0,l0,p0⟩:=dH.cf4)))
 all_goals
  obtain⟨g3,j3,m3,p3⟩:=((dH.eP (b:=w.heap.size) (by omega) (.bool g1) (.slice p1 n1 c1) (.bool h1) (.slice o1 m1 e1)).tZ (.bool g2) (.slice p2 n2 c2) (.bool h2) (.slice o2 m2 e2)).cs4
  go_wp2_with fail
  have q1:=((hi2.aX dG rfl rfl rfl rfl (.bool g1) (.slice p1 n1 c1) (.bool h1) (.slice o1 m1 e1)).aX (dH.eP (b:=w.heap.size) (by omega) (.bool g1) (.slice p1 n1 c1) (.bool h1) (.slice o1 m1 e1)) rfl rfl rfl rfl (.bool g2) (.slice p2 n2 c2) (.bool h2) (.slice o2 m2 e2)).num.raw
  (with_reducible refine(qE _ (((y)).num) _ q1).mono ?_)
  rintro e w3 ⟨rfl,hb3⟩
  go_wp2_with fail
  have kN:=(((dG.tZ (.bool g1) (.slice p1 n1 c1) (.bool h1) (.slice o1 m1 e1)).eP (b:=w.heap.size+1) (by omega) (.bool g2) (.slice p2 n2 c2) (.bool h2) (.slice o2 m2 e2)).to hb3)
  have nS:=(((dH.eP (b:=w.heap.size) (by omega) (.bool g1) (.slice p1 n1 c1) (.bool h1) (.slice o1 m1 e1)).tZ (.bool g2) (.slice p2 n2 c2) (.bool h2) (.slice o2 m2 e2)).to hb3)
  have IL:=(((((j1.drew.to hb1).to hb2).eP (b:=w.heap.size) (by omega) (.bool g1) (.slice p1 n1 c1) (.bool h1) (.slice o1 m1 e1)).eP (b:=w.heap.size+1) (by omega) (.bool g2) (.slice p2 n2 c2) (.bool h2) (.slice o2 m2 e2)).to hb3)
  have c0j:=(aK.mk (kN.drew).bs4 (aK.mk (nS.drew).bs4 (BN.of (IL.drew))))
  have f1:dM (w.heap.size+1+1) (aK (BS4 w.heap.size (.bool g1) (.slice p1 n1 c1) (.bool h1) (.slice o1 m1 e1)) (aK (BS4 (w.heap.size+1) (.bool g2) (.slice p2 n2 c2) (.bool h2) (.slice o2 m2 e2)) (BN (w.heap.size+1+1)))):=(aK.hc (BS4.hc (by omega)) (aK.hc (BS4.hc (by omega)) BN.hc))
  have tk3:True:=trivial
  have tk4:True:=trivial
  have tk5:True:=trivial
  go_region_held3 (aK (BS4 w.heap.size (.bool g1) (.slice p1 n1 c1) (.bool h1) (.slice o1 m1 e1)) (aK (BS4 (w.heap.size+1) (.bool g2) (.slice p2 n2 c2) (.bool h2) (.slice o2 m2 e2)) (BN (w.heap.size+1+1)))) (first|with_reducible exact c0j|with_reducible exact gK.go (aK.hk BS4.hk (aK.hk BS4.hk BN.hk)) (by assumption) (by assumption)|with_reducible exact dM.go4 f1 (by assumption)|(simp;done))
   (first
    | (((have:=tk3);clear tk3;have a1:=((((hi1.below hb2).aX dG rfl rfl rfl rfl (.bool g1) (.slice p1 n1 c1) (.bool h1) (.slice o1 m1 e1)).aX (dH.eP (b:=w.heap.size) (by omega) (.bool g1) (.slice p1 n1 c1) (.bool h1) (.slice o1 m1 e1)) rfl rfl rfl rfl (.bool g2) (.slice p2 n2 c2) (.bool h2) (.slice o2 m2 e2)).below hb3);have r1:=a1.drew.num.raw;have d1:=(((hi2.aX dG rfl rfl rfl rfl (.bool g1) (.slice p1 n1 c1) (.bool h1) (.slice o1 m1 e1)).aX (dH.eP (b:=w.heap.size) (by omega) (.bool g1) (.slice p1 n1 c1) (.bool h1) (.slice o1 m1 e1)) rfl rfl rfl rfl (.bool g2) (.slice p2 n2 c2) (.bool h2) (.slice o2 m2 e2)).below hb3);have s1:=d1.drew.den.raw;go_at_call 136;(with_reducible refine(mul_any _ _ (((x)).num) ((((y)).den:Int)) _ r1 s1 (by omega) (by omega)).mono ?_);rintro e w4 ⟨v4,rfl,hi4,hb4⟩;obtain⟨g4,p4,n4,c4,rfl⟩:=hi4.form))
    | (((have:=tk4);clear tk4;have z1:=(a1.drew.below hb4);have t1:=z1.den.raw;have a2:=(d1.drew.below hb4);have u1:=a2.num.raw;go_at_call 136;(with_reducible refine(mul_any _ _ ((((x)).den:Int)) (((y)).num) _ t1 u1 (by omega) (by omega)).mono ?_);rintro e w5 ⟨v5,rfl,hi5,hb5⟩;obtain⟨g5,p5,n5,c5,rfl⟩:=hi5.form))
    | (((have:=tk5);clear tk5;have d2:=(hi4.below hb5);have x1:=d2;have y1:=hi5;go_at_call 151;(with_reducible refine(xK _ _ ((((x)).num)*((((y)).den:Int))) (((((x)).den:Int))*(((y)).num)) _ x1 y1 (by omega) (by omega) hd0).mono ?_);rintro e w6 ⟨v6,rfl,hi6,hb6⟩;obtain⟨g6,p6,n6,c6,h6,o6,m6,e6,rfl⟩:=hi6.form;have qU:=(((IL.drew.to hb4).to hb5).to hb6);obtain⟨q0,u0,r0,v0,s0,w0,t0,x0⟩:=qU.cf4)))
  have i1:=(Below.tr (Below.tr (Below.tr (Below.tr (Below.aX (Below.aX (Below.tr (Below.tr (Below.tr bP hA1).drew hb1) hb2) (b:=w.heap.size) (by omega) (.bool g1) (.slice p1 n1 c1) (.bool h1) (.slice o1 m1 e1)) (b:=w.heap.size+1) (by omega) (.bool g2) (.slice p2 n2 c2) (.bool h2) (.slice o2 m2 e2)) hb3).drew hb4) hb5) hb6)
  go_wp2_with fail
  exact bodyPost_ret (v:=.tuple #[.agg #[.bool g6,.slice p6 n6 c6,.bool h6,.slice o6 m6 e6],.int .i64 0]) (by simp[results,Tryz.results173,go_sem,a0,e0,b0,f0,c0,g0,d0,h0,i0,m0,j0,n0,k0,o0,l0,p0,q0,u0,r0,v0,s0,w0,t0,x0]) rfl ⟨_,rfl,by rw[<-HX.out];exact(hi6.aX qU rfl rfl rfl rfl (.bool g6) (.slice p6 n6 c6) (.bool h6) (.slice o6 m6 e6)),(Below.aX i1 (b:=w.heap.size+1+1) (by omega) (.bool g6) (.slice p6 n6 c6) (.bool h6) (.slice o6 m6 e6))⟩
theorem a2M (v u:Value) (o1 o2:Bool) (x y:Rat) (w:World) (h1:gQ w v o1 x) (h2:gQ w u o2 y) (n1:Qn v 400000000) (n2:Qn u 400000000) (hy:y=0) :
  Calls Tryz.prog 173 #[v,u] w (b8i 14 w):=by
 obtain⟨b,p,n,c,d,o,m,e,rfl⟩:=h1.form
 obtain⟨f,i,j,k,g,r,t,a,rfl⟩:=h2.form
 have hl:=h1.kF n1 (by omega)
 have hl2:=h2.kF n2 (by omega)
 have m1:=n1.up (show 400000000<=1000000000 by omega)
 have m2:=n2.up (show 400000000<=1000000000 by omega)
 have b1:=eF x
 have b2:=dX x
 have b3:=eF y
 have b4:=dX y
 have b9t:(sgn y.num==0)=true:=by rw[hy];rfl
 clear hy
 have bP:Below w.heap.size w w:=Below.refl _ _
 go_enter Tryz.func173,Tryz.ntmps173
 go_wp2_with fail
 obtain⟨hA1,y0,z0,d1⟩:=bx3 w rfl [.bool b,.slice p n c,.bool d,.slice o m e] 64 [.bool f,.slice i j k,.bool g,.slice r t a] 64 [.bool false,.slice none 0 0,.bool false,.slice none 0 0] 64
 obtain⟨k1,y1,q1,a2,s1,f2,u1,j2⟩:=y0.drew.cf4
 obtain⟨l2,e3,s2,g3,x2,i3,a3,k3⟩:=z0.drew.cf4
 have tk1:True:=trivial
 have tk2:True:=trivial
 go_region_with
  (first
   | (((have:=tk1);clear tk1;have f1:=(h1.below hA1).drew;go_at_call 119;(with_reducible refine(iZ _ _ (x) _ f1 m1).mono ?_);rintro e w1 ⟨v1,rfl,hi1,hb1⟩;obtain⟨g1,p1,n1,c1,h1,o1,m1,e1,rfl⟩:=hi1.form;have dQ:=(z0.drew.to hb1);obtain⟨q2,f3,t2,h3,y2,j3,c3,l3⟩:=dQ.cf4;have dK:=(y0.drew.to hb1);obtain⟨l1,z1,r1,d2,t1,i2,x1,k2⟩:=dK.cf4))
   | (((have:=tk2);clear tk2;have YM:=((h2.below hA1).drew.below hb1);have i1:=YM;go_at_call 119;(with_reducible refine(iZ _ _ (y) _ i1 m2).mono ?_);rintro e w2 ⟨v2,rfl,hi2,hb2⟩;obtain⟨g2,p2,n2,c2,h2,o2,m2,e2,rfl⟩:=hi2.form;have dG:=(dK.to hb2);obtain⟨a0,e0,b0,f0,c0,g0,d0,h0⟩:=dG.cf4;have dH:=(dQ.to hb2);obtain⟨i0,m0,j0,n0,k0,o0,l0,p0⟩:=dH.cf4)))
 all_goals
  obtain⟨r2,u2,z2,d3⟩:=((dH.eP (b:=w.heap.size) (by omega) (.bool g1) (.slice p1 n1 c1) (.bool h1) (.slice o1 m1 e1)).tZ (.bool g2) (.slice p2 n2 c2) (.bool h2) (.slice o2 m2 e2)).cs4
  go_wp2_with fail
  have j1:=((hi2.aX dG rfl rfl rfl rfl (.bool g1) (.slice p1 n1 c1) (.bool h1) (.slice o1 m1 e1)).aX (dH.eP (b:=w.heap.size) (by omega) (.bool g1) (.slice p1 n1 c1) (.bool h1) (.slice o1 m1 e1)) rfl rfl rfl rfl (.bool g2) (.slice p2 n2 c2) (.bool h2) (.slice o2 m2 e2)).num.raw
  (with_reducible refine(qE _ (((y)).num) _ j1).mono ?_)
  rintro e w3 ⟨rfl,hb3⟩
  have IL:=(((((d1.drew.to hb1).to hb2).eP (b:=w.heap.size) (by omega) (.bool g1) (.slice p1 n1 c1) (.bool h1) (.slice o1 m1 e1)).eP (b:=w.heap.size+1) (by omega) (.bool g2) (.slice p2 n2 c2) (.bool h2) (.slice o2 m2 e2)).to hb3)
  obtain⟨q0,u0,r0,v0,s0,w0,t0,x0⟩:=IL.cf4
  have a1:=(Below.tr (Below.aX (Below.aX (Below.tr (Below.tr (Below.tr bP hA1).drew hb1) hb2) (b:=w.heap.size) (by omega) (.bool g1) (.slice p1 n1 c1) (.bool h1) (.slice o1 m1 e1)) (b:=w.heap.size+1) (by omega) (.bool g2) (.slice p2 n2 c2) (.bool h2) (.slice o2 m2 e2)) hb3)
  go_wp2_with fail
  exact bodyPost_ret (v:=.tuple #[.agg #[.bool false,.slice none 0 0,.bool false,.slice none 0 0],.int .i64 14]) (by simp[results,Tryz.results173,go_sem,a0,e0,b0,f0,c0,g0,d0,h0,i0,m0,j0,n0,k0,o0,l0,p0,q0,u0,r0,v0,s0,w0,t0,x0]) rfl ⟨rfl,(Below.aX a1 (b:=w.heap.size+1+1) (by omega) (.bool false) (.slice none 0 0) (.bool false) (.slice none 0 0))⟩
theorem YF (v u:Value) (o1 o2:Bool) (x y:Rat) (w:World) (h1:gQ w v o1 x) (h2:gQ w u o2 y) (n1:Qn v 400000000) (n2:Qn u 400000000) :
  Calls Tryz.prog 89 #[v,u] w (fun e w'=>e=.returned (.int .i64 (JU x y))/\Below w.heap.size w w'):=by
 obtain⟨b,p,n,c,d,o,m,e,rfl⟩:=h1.form
 obtain⟨f,i,j,k,g,r,t,a,rfl⟩:=h2.form
 have hl:=h1.kF n1 (by omega)
 have hl2:=h2.kF n2 (by omega)
 have m1:=n1.up (show 400000000<=1000000000 by omega)
 have m2:=n2.up (show 400000000<=1000000000 by omega)
 have b1:=eF x
 have b2:=dX x
 have b3:=eF y
 have b4:=dX y
 have c1:=dY x.num y.den
 have c2:=dY y.num x.den
 have bP:Below w.heap.size w w:=Below.refl _ _
 go_enter Tryz.func89,Tryz.ntmps89
 go_wp2_with fail
 obtain⟨hA1,a0,b0⟩:=bx2 w rfl [.bool b,.slice p n c,.bool d,.slice o m e] 64 [.bool f,.slice i j k,.bool g,.slice r t a] 64
 obtain⟨p0,d1,s0,j1,v0,q1,y0,t1⟩:=a0.drew.cf4
 obtain⟨y1,t2,d2,y2,j2,d3,q2,h3⟩:=b0.drew.cf4
 have tk1:True:=trivial
 have tk2:True:=trivial
 go_region_with
  (first
   | (((have:=tk1);clear tk1;have e0:=(h1.below hA1).drew;go_at_call 119;(with_reducible refine(iZ _ _ (x) _ e0 m1).mono ?_);rintro e w1 ⟨v1,rfl,hi1,hb1⟩;obtain⟨g1,p1,n1,c1,h1,o1,m1,e1,rfl⟩:=hi1.form;have dQ:=(b0.drew.to hb1);obtain⟨z1,u2,f2,z2,k2,e3,r2,i3⟩:=dQ.cf4;have dK:=(a0.drew.to hb1);obtain⟨q0,f1,t0,k1,w0,r1,z0,u1⟩:=dK.cf4))
   | (((have:=tk2);clear tk2;have YM:=((h2.below hA1).drew.below hb1);have f0:=YM;go_at_call 119;(with_reducible refine(iZ _ _ (y) _ f0 m2).mono ?_);rintro e w2 ⟨v2,rfl,hi2,hb2⟩;obtain⟨g2,p2,n2,c2,h2,o2,m2,e2,rfl⟩:=hi2.form;have dG:=(dK.to hb2);obtain⟨r0,i1,u0,l1,x0,s1,a1,x1⟩:=dG.cf4;have dH:=(dQ.to hb2);obtain⟨a2,x2,i2,a3,l2,f3,s2,j3⟩:=dH.cf4)))
 all_goals
  go_wp2_with fail
  have XP:=(aK.mk (((dG.tZ (.bool g1) (.slice p1 n1 c1) (.bool h1) (.slice o1 m1 e1)).eP (b:=w.heap.size+1) (by omega) (.bool g2) (.slice p2 n2 c2) (.bool h2) (.slice o2 m2 e2)).drew).bs4 (((dH.eP (b:=w.heap.size) (by omega) (.bool g1) (.slice p1 n1 c1) (.bool h1) (.slice o1 m1 e1)).tZ (.bool g2) (.slice p2 n2 c2) (.bool h2) (.slice o2 m2 e2)).drew).bs4)
  have tk3:True:=trivial
  have tk4:True:=trivial
  have tk5:True:=trivial
  go_region_held3 (aK (BS4 w.heap.size (.bool g1) (.slice p1 n1 c1) (.bool h1) (.slice o1 m1 e1)) (BS4 (w.heap.size+1) (.bool g2) (.slice p2 n2 c2) (.bool h2) (.slice o2 m2 e2))) (first|with_reducible exact XP|with_reducible exact gK.go (aK.hk BS4.hk BS4.hk) (by assumption) (by assumption)|(simp;done))
   (first
    | (((have:=tk3);clear tk3;have c0:=(hi1.below hb2);have g0:=((c0.aX dG rfl rfl rfl rfl (.bool g1) (.slice p1 n1 c1) (.bool h1) (.slice o1 m1 e1)).aX (dH.eP (b:=w.heap.size) (by omega) (.bool g1) (.slice p1 n1 c1) (.bool h1) (.slice o1 m1 e1)) rfl rfl rfl rfl (.bool g2) (.slice p2 n2 c2) (.bool h2) (.slice o2 m2 e2)).drew.num.raw;have h0:=((hi2.aX dG rfl rfl rfl rfl (.bool g1) (.slice p1 n1 c1) (.bool h1) (.slice o1 m1 e1)).aX (dH.eP (b:=w.heap.size) (by omega) (.bool g1) (.slice p1 n1 c1) (.bool h1) (.slice o1 m1 e1)) rfl rfl rfl rfl (.bool g2) (.slice p2 n2 c2) (.bool h2) (.slice o2 m2 e2)).drew.den.raw;go_at_call 136;(with_reducible refine(mul_any _ _ (((x)).num) ((((y)).den:Int)) _ g0 h0 (by omega) (by omega)).mono ?_);rintro e w3 ⟨v3,rfl,hi3,hb3⟩;obtain⟨g3,p3,n3,c3,rfl⟩:=hi3.form))
    | (((have:=tk4);clear tk4;have n0:=(((hi2.aX dG rfl rfl rfl rfl (.bool g1) (.slice p1 n1 c1) (.bool h1) (.slice o1 m1 e1)).aX (dH.eP (b:=w.heap.size) (by omega) (.bool g1) (.slice p1 n1 c1) (.bool h1) (.slice o1 m1 e1)) rfl rfl rfl rfl (.bool g2) (.slice p2 n2 c2) (.bool h2) (.slice o2 m2 e2)).drew.below hb3);have i0:=n0.num.raw;have m0:=(((c0.aX dG rfl rfl rfl rfl (.bool g1) (.slice p1 n1 c1) (.bool h1) (.slice o1 m1 e1)).aX (dH.eP (b:=w.heap.size) (by omega) (.bool g1) (.slice p1 n1 c1) (.bool h1) (.slice o1 m1 e1)) rfl rfl rfl rfl (.bool g2) (.slice p2 n2 c2) (.bool h2) (.slice o2 m2 e2)).drew.below hb3);have j0:=m0.den.raw;go_at_call 136;(with_reducible refine(mul_any _ _ (((y)).num) ((((x)).den:Int)) _ i0 j0 (by omega) (by omega)).mono ?_);rintro e w4 ⟨v4,rfl,hi4,hb4⟩;obtain⟨g4,p4,n4,c4,rfl⟩:=hi4.form))
    | (((have:=tk5);clear tk5;have o0:=(hi3.below hb4);have k0:=o0.raw;have l0:=hi4.raw;go_at_call 135;(with_reducible refine(FN _ _ ((((x)).num)*((((y)).den:Int))) ((((y)).num)*((((x)).den:Int))) _ k0 l0).mono ?_);rintro e w5 ⟨rfl,hb5⟩)))
  have d0:=(Below.tr (Below.tr (Below.tr (Below.aX (Below.aX (Below.tr (Below.tr (Below.tr bP hA1).drew hb1) hb2) (b:=w.heap.size) (by omega) (.bool g1) (.slice p1 n1 c1) (.bool h1) (.slice o1 m1 e1)) (b:=w.heap.size+1) (by omega) (.bool g2) (.slice p2 n2 c2) (.bool h2) (.slice o2 m2 e2)).drew hb3) hb4) hb5)
  go_wp2_with fail
  go_ret
  exact⟨iH (b0X x y),d0⟩
theorem YE (v u:Value) (x y:Rat) (w:World) (h1:RQ w v x) (h2:RQ w u y) (l1:rsz x<=400000000) (l2:rsz y<=400000000) :
 Calls Tryz.prog 89 #[v,u] w (fun e w'=>e=.returned (.int .i64 (JU x y))/\Below w.heap.size w w'):=YF v u true true x y w h1.raw h2.raw (h1.qn l1) (h2.qn l2)
theorem b1e (v u:Value) (x y:Rat) (w:World) (h1:RQ w v x) (h2:RQ w u y) (l1:rsz x<=400000000) (l2:rsz y<=400000000) (hy:y≠0) :
 Calls Tryz.prog 173 #[v,u] w (GQC (x / y) 0 w):=a2N v u true true x y w h1.raw h2.raw (h1.qn l1) (h2.qn l2) hy
theorem b0t (v u:Value) (o1 o2:Bool) (x y:Rat) (w:World) (fa:gQ w v o1 x) (fb:gQ w u o2 y) (qa:Qn v 400000000) (qb:Qn u 400000000) :
  Calls Tryz.prog 145 #[v,u] w (GQ (x-y) w):=by
 obtain⟨b,p,n,c,d,o,m,e,rfl⟩:=fa.form
 obtain⟨f,i,j,k,g,r,t,a,rfl⟩:=fb.form
 have hl:=fa.kF qa (by omega)
 have hl2:=fb.kF qb (by omega)
 have ma:=qa.up (show 400000000<=1000000000 by omega)
 have mb:=qb.up (show 400000000<=1000000000 by omega)
 have b1:=eF x
 have b2:=dX x
 have b3:=eF y
 have b4:=dX y
 have hc5:rsz (-y)<=400000000:=by rw[ZU];exact hl2
 have bP:Below w.heap.size w w:=Below.refl _ _
 go_enter Tryz.func145,Tryz.ntmps145
 go_wp2_with fail
 obtain⟨hA1,l0,m0,i0⟩:=bx3 w rfl [.bool b,.slice p n c,.bool d,.slice o m e] 64 [.bool f,.slice i j k,.bool g,.slice r t a] 64 [.bool false,.slice none 0 0,.bool false,.slice none 0 0] 64
 have wM:=(aK.mk (l0.drew).bs4 (aK.mk (m0.drew).bs4 (BN.of (i0.drew))))
 have j0:dM (w.heap.size+1+1) (aK (BS4 w.heap.size (.bool b) (.slice p n c) (.bool d) (.slice o m e)) (aK (BS4 (w.heap.size+1) (.bool f) (.slice i j k) (.bool g) (.slice r t a)) (BN (w.heap.size+1+1)))):=(aK.hc (BS4.hc (by omega)) (aK.hc (BS4.hc (by omega)) BN.hc))
 have tk1:True:=trivial
 have tk2:True:=trivial
 go_region_held3 (aK (BS4 w.heap.size (.bool b) (.slice p n c) (.bool d) (.slice o m e)) (aK (BS4 (w.heap.size+1) (.bool f) (.slice i j k) (.bool g) (.slice r t a)) (BN (w.heap.size+1+1)))) (first|with_reducible exact wM|with_reducible exact gK.go (aK.hk BS4.hk (aK.hk BS4.hk BN.hk)) (by assumption) (by assumption)|with_reducible exact dM.go4 j0 (by assumption)|(simp;done))
  (first
   | (((have:=tk1);clear tk1;have n0:=(fb.below hA1).drew;go_at_call 93;(with_reducible refine(a1x _ _ (y) _ n0 mb).mono ?_);rintro e w1 ⟨v1,rfl,hi1,hb1⟩;obtain⟨g1,p1,n1,c1,h1,o1,m1,e1,rfl⟩:=hi1.form))
   | (((have:=tk2);clear tk2;have b3O:=((fa.below hA1).drew.below hb1);have o0:=b3O;have p0:=hi1.raw;go_at_call 115;(with_reducible refine(a0p _ _ _ _ (x) (-(y)) _ o0 p0 qa (RQ.qn hi1 hc5)).mono ?_);rintro e w2 ⟨v2,rfl,hi2,hb2⟩;obtain⟨g2,p2,n2,c2,h2,o2,m2,e2,rfl⟩:=hi2.form;have kU:=((i0.drew.to hb1).to hb2);obtain⟨a0,e0,b0,f0,c0,g0,d0,h0⟩:=kU.cf4)))
 have k0:=(Below.tr (Below.tr (Below.tr bP hA1).drew hb1) hb2)
 go_wp2_with fail
 exact bodyPost_ret (v:=.agg #[.bool g2,.slice p2 n2 c2,.bool h2,.slice o2 m2 e2]) (by simp[results,Tryz.results145,go_sem,a0,e0,b0,f0,c0,g0,d0,h0]) rfl ⟨_,rfl,by rw[Rat.sub_eq_add_neg];exact(hi2.aX kU rfl rfl rfl rfl (.bool g2) (.slice p2 n2 c2) (.bool h2) (.slice o2 m2 e2)),(Below.aX k0 (b:=w.heap.size+1+1) (by omega) (.bool g2) (.slice p2 n2 c2) (.bool h2) (.slice o2 m2 e2))⟩
theorem b0s (v u:Value) (x y:Rat) (w:World) (h1:RQ w v x) (h2:RQ w u y) (l1:rsz x<=400000000) (l2:rsz y<=400000000) :
 Calls Tryz.prog 145 #[v,u] w (GQ (x-y) w):=b0t v u true true x y w h1.raw h2.raw (h1.qn l1) (h2.qn l2)
set_option maxRecDepth 20000
theorem bZ {G:Prop} (V:Prop) (h:V=G) (v:V):G:=h ▸ v
abbrev asT (α:Type) (x:α):α:=x
abbrev aC (α:Type):List α:=[]
abbrev aA (n:Nat):Int:=(n:Int)
abbrev bY (n:Int):Rat:=(n:Rat)
abbrev aB.{u} {α:Sort u} {p:α->Prop} (x:Subtype p):α:=x.1
abbrev tB:Ty:=.bool
abbrev tM:Ty:=.list (.list tQ)
def b8L (pre:Rat->Rat->Prop) (g:Rat->Rat->Bool):Ctr:=⟨[tQ,tQ],[tB],fun x=>pre x.1 x.2.1,fun x=>(g x.1 x.2.1,())⟩
theorem b0R {f:FuncId} {pre:Rat->Rat->Prop} {g:Rat->Rat->Bool} (h:∀ (v u:Value) (x y:Rat) (w:World),RQ w v x->RQ w u y->pre x y->Calls Tryz.prog f #[v,u] w (GB (g x y) w)):aT Tryz.prog f (b8L pre g):=by
 intro F w vs x hF hvs hp
 obtain⟨v,vs',rfl,h1,u,vs'',rfl,h2,h3⟩:=hvs
 have h3:vs''=[]:=h3
 subst h3
 refine(h v u x.1 x.2.1 w (uT h1) (uT h2) hp).mono ?_
 rintro e w' ⟨rfl,hb⟩
 exact⟨_,rfl,b0E _,hb⟩
def b8M (pre:Rat->Rat->Prop) (g:Rat->Rat->Int):Ctr:=⟨[tQ,tQ],[tI],fun x=>pre x.1 x.2.1,fun x=>(g x.1 x.2.1,())⟩
theorem b0S {f:FuncId} {pre:Rat->Rat->Prop} {g:Rat->Rat->Int} (h:∀ (v u:Value) (x y:Rat) (w:World),RQ w v x->RQ w u y->pre x y->Calls Tryz.prog f #[v,u] w (fun e w'=>e=.returned (.int .i64 (g x y))/\Below w.heap.size w w')):aT Tryz.prog f (b8M pre g):=by
 intro F w vs x hF hvs hp
 obtain⟨v,vs',rfl,h1,u,vs'',rfl,h2,h3⟩:=hvs
 have h3:vs''=[]:=h3
 subst h3
 refine(h v u x.1 x.2.1 w (uT h1) (uT h2) hp).mono ?_
 rintro e w' ⟨rfl,hb⟩
 exact⟨_,rfl,a2n _,hb⟩
def cQI (pre:Rat->Prop) (g:Rat->Int):Ctr:=⟨[tQ],[tI],fun x=>pre x.1,fun x=>(g x.1,())⟩
theorem a7x {f:FuncId} {pre:Rat->Prop} {g:Rat->Int} (h:∀ (v:Value) (x:Rat) (w:World),RQ w v x->pre x->Calls Tryz.prog f #[v] w (fun e w'=>e=.returned (.int .i64 (g x))/\Below w.heap.size w w')):aT Tryz.prog f (cQI pre g):=by
 intro F w vs x hF hvs hp
 obtain⟨v,vs',rfl,h1,h3⟩:=hvs
 have h3:vs'=[]:=h3
 subst h3
 refine(h v x.1 w (uT h1) hp).mono ?_
 rintro e w' ⟨rfl,hb⟩
 exact⟨_,rfl,a2n _,hb⟩
def iO (i:Int):Prop:=-9223372036854775808<=i/\i<=9223372036854775807
def cZ:aF:=⟨false,0,[],[]⟩
abbrev tR:Ty:=.lf .dD
abbrev tMR:Ty:=.list (.list tR)
theorem b7Z {F:Nat->Prop} {w:World} {v:Value} {x:Rat} (h:RQ w v x):jY F w tR v (dR x):=by
 obtain⟨b,p,c,b',p',c',rfl,r1,r2⟩:=a1G h
 exact⟨_,rfl,b,p,c,b',p',c',rfl,h.raw,r1,r2⟩
theorem b8a {F:Nat->Prop} {w:World}:jY F w tR (.agg #[.bool false,.slice none 0 0,.bool false,.slice none 0 0]) cZ :=
 ⟨[.bool false,.slice none 0 0,.bool false,.slice none 0 0],rfl,yF (.lf .dD) _ rfl⟩
def cVal (K:Nat):Ctr:=⟨[tR],[tB],fun x=>(show aF from x.1).n<=K/\(show aF from x.1).m<=K,fun x=>((show aF from x.1).ok,())⟩
theorem b9O {F:Nat->Prop} {w:World} {v:Value} {x:aF} (h:jY F w tR v x):gQ w v x.ok x.x/\∀ K,x.n<=K->x.m<=K->Qn v K:=by
 obtain⟨cs,rfl,b,p,c,b',p',c',rfl,h2,_,_⟩:=h
 exact⟨h2,fun K h1 h2=>⟨b,p,_,c,b',p',_,c',rfl,h1,h2⟩⟩
theorem a4k {f:FuncId} {K:Nat} (h:∀ (v:Value) (ok:Bool) (q:Rat) (w:World),gQ w v ok q->Qn v K->Calls Tryz.prog f #[v] w (fun e w'=>e=.returned (.bool ok)/\Below w.heap.size w w')):aT Tryz.prog f (cVal K):=by
 intro F w vs x hF hvs hp
 obtain⟨v,vs',rfl,h1,h3⟩:=hvs
 have h3:vs'=[]:=h3
 subst h3
 obtain⟨h4,h5⟩:=b9O h1
 refine(h v _ _ w h4 (h5 K hp.1 hp.2)).mono ?_
 rintro e w' ⟨rfl,hb⟩
 exact⟨_,rfl,b0E _,hb⟩
def b1f (e:Int) (x y:Rat):aF × Int × Unit:=if y=0 then (cZ,e,()) else (dR (x / y),(0:Int),())
def a4j (K:Nat) (e:Int):Ctr:=⟨[tQ,tQ],[tR,tI],fun x=>rsz x.1<=K/\rsz x.2.1<=K,fun x=>b1f e x.1 x.2.1⟩
theorem a7u {f:FuncId} {K:Nat} {c:Int} (h:∀ (v u:Value) (x y:Rat) (w:World),RQ w v x->RQ w u y->rsz x<=K->rsz y<=K->y≠0->Calls Tryz.prog f #[v,u] w (GQC (x / y) 0 w)) (h0:∀ (v u:Value) (x y:Rat) (w:World),RQ w v x->RQ w u y->rsz x<=K->rsz y<=K->y=0->Calls Tryz.prog f #[v,u] w (b8i c w)):aT Tryz.prog f (a4j K c):=by
 intro F w vs x hF hvs hp
 obtain⟨v,vs',rfl,h1,u,vs'',rfl,h2,h3⟩:=hvs
 have h3:vs''=[]:=h3
 subst h3
 by_cases hy:(show Rat from x.2.1)=0
 ·refine(h0 v u x.1 x.2.1 w (uT h1) (uT h2) hp.1 hp.2 hy).mono ?_
  rintro e w' ⟨rfl,hb⟩
  refine⟨_,rfl,?_,hb⟩
  rw[show (a4j K c).fn x=(cZ,c,()) from if_pos hy]
  exact⟨[_,_],rfl,_,_,rfl,b8a,_,_,rfl,a2n _,rfl⟩
 ·refine(h v u x.1 x.2.1 w (uT h1) (uT h2) hp.1 hp.2 hy).mono ?_
  rintro e w' ⟨r,rfl,hr,hb⟩
  refine⟨_,rfl,?_,hb⟩
  rw[show (a4j K c).fn x=(dR ((show Rat from x.1) / (show Rat from x.2.1)),(0:Int),()) from if_neg hy]
  exact⟨[_,_],rfl,_,_,rfl,b7Z hr,_,_,rfl,a2n _,rfl⟩
abbrev s4 (x:Rat):Prop:=rsz x<=400000000
abbrev s44 (x y:Rat):Prop:=rsz x<=400000000/\rsz y<=400000000
theorem PE {α:Type} {p:α->Bool} {xs:List α} {i:Nat} {d:α} (hi:i<xs.length):(xs.take (i+1)).all p=((xs.take i).all p&&p (xs.getD i d)):=by
 rw[List.take_add_one,List.all_append,List.getD_eq_getElem?_getD,List.getElem?_eq_getElem hi]
 simp
abbrev s19 (x y:Rat):Prop:=rsz x<=190000000/\rsz y<=190000000
theorem b3x:aT Tryz.prog 98 (cVal 1000000000):=(a4k fun v ok q w h hn=>EY v ok q w h hn)
theorem a5C:aT Tryz.prog 80 (cIQ iO (fun i=>(i:Rat))):=(a7v fun x w h=>TY x w h.1 h.2)
theorem b3y:aT Tryz.prog 115 (cQ2 s44 (·+·)):=(PS fun v u x y w a b h=>a7k v u x y w a b h.1 h.2)
theorem b0H:aT Tryz.prog 149 (cQ2 s44 (·*·)):=(PS fun v u x y w a b h=>a8X v u x y w a b h.1 h.2)
theorem a2v:aT Tryz.prog 70 (cQI (fun x=>rsz x<=1000000000) (fun x=>sgn x.num)):=(a7x fun v x w h hl=>a6Q v x w h hl)
theorem b9W:aT Tryz.prog 173 (a4j 400000000 14):=(a7u (fun v u x y w a b h1 h2 hy=>b1e v u x y w a b h1 h2 hy) (fun v u x y w a b l1 l2 hy=>a2M v u true true x y w a.raw b.raw (a.qn l1) (b.qn l2) hy))
theorem b3z:aT Tryz.prog 145 (cQ2 s44 (·-·)):=(PS fun v u x y w a b h=>b0s v u x y w a b h.1 h.2)
theorem b9Y:aT Tryz.prog 89 (b8M s44 JU):=(b0S fun v u x y w a b h=>YE v u x y w a b h.1 h.2)
set_option maxRecDepth 100000
set_option maxHeartbeats 1000000
abbrev LR:Type:=List aF
def rF (q:aF):Prop:=q.n<=1000000000/\q.m<=1000000000
def yN {α:Type} (p:α->Bool) (xs:List α):Int:=if xs.any p then (xs.findIdx p:Nat) else -1
theorem QJ {α:Type} {p:α->Bool} {xs:List α} {i:Nat} {d:α} (hi:i<xs.length) (h0:(xs.take i).any p=false) (h:p (xs.getD i d)=true):yN p xs=(i:Nat):=by
 have h1:xs.getD i d=xs[i]:=by rw[List.getD_eq_getElem?_getD,List.getElem?_eq_getElem hi];rfl
 rw[h1] at h
 have h2:xs.findIdx p=i:=by
  rw[List.findIdx_eq hi]
  refine⟨h,fun j hj=>?_⟩
  have:=List.any_eq_false.mp h0 xs[j] (List.mem_take_iff_getElem.mpr ⟨j,by omega,rfl⟩)
  simpa using this
 unfold yN
 rw[if_pos (List.any_eq_true.mpr ⟨_,List.getElem_mem hi,h⟩),h2]
theorem YK {α:Type} {p:α->Bool} {xs:List α} (h:xs.any p=false):yN p xs=-1:=by unfold yN;rw[h];rfl
theorem QK {α:Type} (p:α->Bool) (xs:List α):decide (yN p xs ≥ 0)=xs.any p:=by
 unfold yN;cases h:xs.any p
 ·rfl
 ·simp
theorem mM {α:Type} {p:α->Bool} {xs:List α} {i:Nat} {d:α} (hi:i<xs.length):(xs.take (i+1)).any p=((xs.take i).any p || p (xs.getD i d)):=by
 rw[List.take_add_one,List.any_append,List.getD_eq_getElem?_getD,List.getElem?_eq_getElem hi]
 simp
theorem fD {α:Type} {p:α->Prop} {xs:List α} (h:∀ x ∈ xs,p x) {i:Nat} (hi:i<xs.length) {d:α}:p (xs.getD i d):=by
 rw[List.getD_eq_getElem?_getD,List.getElem?_eq_getElem hi];exact h _ (List.getElem_mem hi)
theorem bH {n:Int} (h0:-9223372036854775808<=n) (h1:n<=9223372036854775807):IntKind.wrap .i64 n=n:=by
 unfold IntKind.wrap
 simp only[IntKind.bits,IntKind.signed,Bool.true_and,decide_eq_true_eq,Nat.reduceSub,Int.reducePow,ge_iff_le]
 split<;>omega
def c0r:Ctr:=⟨[tR],[tB],fun x=>rF x.1,fun x=>(!(show aF from x.1).ok,())⟩
theorem XW:aT Tryz.prog 163 c0r:=by
 refine kM (nil0.ad b3x) [] Tryz.func163 rfl (by decide) (fun x=>[]) (fun x hp=>?_)
 obtain⟨x,u⟩:=x
 change aF at x
 refine bZ (((aF.n x<=1000000000/\aF.m x<=1000000000)/\True)/\True/\(!aF.ok x)=!aF.ok x/\True) (by kernel_rfl) ?_
 exact⟨⟨hp,trivial⟩,trivial,rfl,trivial⟩
def c0F:Ctr:=⟨[.list tR,.clo 163 .unit],[tI],fun x=>(show LR from x.1).length<=1000000/\∀ q ∈ (show LR from x.1),rF q,fun x=>(yN (fun q:aF=>!q.ok) (show LR from x.1),())⟩
theorem b1E:aT Tryz.prog 180 c0F:=by
 refine kM (nil0.ad XW) [] Tryz.func180 rfl (by decide) (fun x=>[.inv {k:Nat // k<=(show LR from x.1).length/\((show LR from x.1).take k).any (fun q=>!q.ok)=false} (fun k=>[(8,.val tI (k.1:Int))]) (fun k=>[]) (fun k=>(show LR from x.1).length-k.1) ⟨0,by omega,rfl⟩ (fun _=>[])]) (fun x hp=>?_)
 obtain⟨x,c,u⟩:=x
 change List aF at x
 refine bZ ((asT Int 0=0/\True)/\∀ (i:{ k:Nat // k<=List.length x/\(List.any (List.take k x) fun(q:aF)=>!aF.ok q)=false }),asT Bool true=true/\ifB (decide (aA (aB i)<aA (List.length x))) ((0<=aA (aB i)/\aA (aB i)<aA (List.length x)/\rF (List.getD x (Int.toNat (aA (aB i))) { ok:=false,x:=0,g:=aC Nat,h:=aC Nat })/\True)/\ifB (!aF.ok (List.getD x (Int.toNat (aA (aB i))) { ok:=false,x:=0,g:=aC Nat,h:=aC Nat })) (True/\aA (aB i)=yN (fun(q:aF)=>!aF.ok q) x/\True) (∃ (i':{ k:Nat // k<=List.length x/\(List.any (List.take k x) fun(q:aF)=>!aF.ok q)=false }),List.length x-aB i'<List.length x-aB i/\IntKind.wrap IntKind.i64 (aA (aB i)+1)=aA (aB i')/\True)) (True/\-1=yN (fun(q:aF)=>!aF.ok q) x/\True)) (by kernel_rfl) ?_
 obtain⟨hl,hb⟩:=hp
 have hZ:(⟨false,0,[],[]⟩:aF)=cZ:=rfl
 dsimp only[aA,asT,aB,aC] at *
 simp only[hZ,Int.toNat_natCast,bG,decide_eq_true_eq,decide_eq_false_iff_not,true_and,and_true,Bool.not_eq_true',Bool.not_eq_false']
 refine fun i=>⟨fun h1=>⟨⟨by omega,h1,fD hb (by omega)⟩,fun h2=>?_,fun h2=>⟨⟨i.1+1,by omega,?_⟩,by simp only;omega,?_⟩⟩,fun h1=>?_⟩
 ·exact(QJ (d:=cZ) (by omega) i.2.2 (by rw[h2];rfl)).symm
 ·rw[mM (d:=cZ) (by omega),i.2.2,h2];rfl
 ·rw[bH (by omega) (by omega)];rfl
 ·have h3:=i.2.2
  rw[List.take_of_length_le (by omega)] at h3
  exact(YK h3).symm
def c0w:Ctr:=⟨[.list tR,.clo 163 .unit],[tB],fun x=>(show LR from x.1).length<=1000000/\∀ q ∈ (show LR from x.1),rF q,fun x=>((show LR from x.1).any (fun q:aF=>!q.ok),())⟩
theorem b0Z:aT Tryz.prog 162 c0w:=by
 refine kM ((nil0.ad XW).ad b1E) [] Tryz.func162 rfl (by decide) (fun x=>[]) (fun x hp=>?_)
 obtain⟨x,c,u⟩:=x
 change List aF at x
 refine bZ (((List.length x<=1000000/\∀ (q:aF),q ∈ x->rF q)/\True)/\True/\(decide (yN (fun(q:aF)=>!aF.ok q) x ≥ 0)=List.any x fun(q:aF)=>!aF.ok q)/\True) (by kernel_rfl) ?_
 exact⟨⟨hp,trivial⟩,trivial,QK _ _,trivial⟩
def b8q:Ctr:=⟨[.list tR],[tB],fun x=>(show LR from x.1).length<=1000000/\∀ q ∈ (show LR from x.1),rF q,fun x=>(!(show LR from x.1).any (fun q:aF=>!q.ok),())⟩
theorem lI:aT Tryz.prog 134 b8q:=by
 refine kM ((nil0.ad XW).ad b0Z) [] Tryz.func134 rfl (by decide) (fun x=>[]) (fun x hp=>?_)
 obtain⟨x,u⟩:=x
 change List aF at x
 refine bZ (((List.length x<=1000000/\∀ (q:aF),q ∈ x->rF q)/\True)/\True/\((!List.any x fun(q:aF)=>!aF.ok q)=!List.any x fun(q:aF)=>!aF.ok q)/\True) (by kernel_rfl) ?_
 exact⟨⟨hp,trivial⟩,trivial,rfl,trivial⟩
abbrev MR:Type:=List (List aF)
abbrev wdM {α:Type} (a:List (List α)):Nat:=(a.getD 0 []).length
def badR (n:Nat) (r:LR):Bool:=!(r.length==n) || r.any (fun q=>!q.ok)
def rG (r:LR):Prop:=r.length<=1000000/\∀ q ∈ r,rF q
theorem a1i (m n:Nat):((m:Int) != (n:Int))=!(m==n):=by
 by_cases h:m=n
 ·subst h;simp
 ·rw[beq_eq_false_iff_ne.mpr h,bne_iff_ne.mpr (fun h2=>h (by exact_mod_cast h2))];rfl
def b8o:Ctr:=⟨[.list tR,.ref tMR],[tB],fun x=>rG x.1/\0<(show MR from x.2.1).length,fun x=>(badR (wdM (show MR from x.2.1)) x.1,())⟩
theorem PL:aT Tryz.prog 133 b8o:=by
 refine kM (nil0.ad lI) [] Tryz.func133 rfl (by decide) (fun x=>[]) (fun x hp=>?_)
 obtain⟨x,a,u⟩:=x
 change List aF at x
 change List (List aF) at a
 refine bZ (let A₀:=(List.length (List.getD a 0 (aC aF)));(asT Int 0<=0/\0<aA (List.length a)/\(((aA (List.length x) != aA A₀)==false)=true->((aA (List.length x) != aA A₀)==false)=true/\(List.length x<=1000000/\∀ (q:aF),q ∈ x->rF q)/\True)/\(((aA (List.length x) != aA A₀)==false)=true->((aA (List.length x) != aA A₀)==false)=true/\True)/\((aA (List.length x) != aA A₀)=false->((aA (List.length x) != aA A₀)==false)=true)/\True)/\True/\(bif aA (List.length x) != aA A₀ then true else !!List.any x fun(q:aF)=>!aF.ok q)=badR (wdM a) x/\True) (by kernel_rfl) ?_
 obtain⟨hs,h0⟩:=hp
 dsimp only[aA,asT,aB,aC] at *
 refine⟨⟨by omega,by omega,fun h=>⟨h,hs,trivial⟩,fun h=>⟨h,trivial⟩,fun h=>by rw[h];rfl,trivial⟩,trivial,?_,trivial⟩
 unfold badR
 rw[Bool.not_not,a1i]
 cases x.length==wdM a<;>rfl
def c0E:Ctr:=⟨[tMR,.clo 133 (.pair (.ref tMR) .unit)],[tI],fun x=>(show MR from x.1).length<=1000000/\(∀ r ∈ (show MR from x.1),rG r)/\0<(show MR from x.2.1.1).length,fun x=>(yN (badR (wdM (show MR from x.2.1.1))) (show MR from x.1),())⟩
theorem b1D:aT Tryz.prog 161 c0E:=by
 refine kM (nil0.ad PL) [] Tryz.func161 rfl (by decide) (fun x=>[.inv {k:Nat // k<=(show MR from x.1).length/\((show MR from x.1).take k).any (badR (wdM (show MR from x.2.1.1)))=false} (fun k=>[(8,.val tI (k.1:Int))]) (fun k=>[]) (fun k=>(show MR from x.1).length-k.1) ⟨0,by omega,rfl⟩ (fun _=>[])]) (fun x hp=>?_)
 obtain⟨x,⟨a,c⟩,u⟩:=x
 change List (List aF) at x
 change List (List aF) at a
 refine bZ ((asT Int 0=0/\True)/\∀ (i:{ k:Nat // k<=List.length x/\List.any (List.take k x) (badR (wdM a))=false }),asT Bool true=true/\ifB (decide (aA (aB i)<aA (List.length x))) ((0<=aA (aB i)/\aA (aB i)<aA (List.length x)/\(rG (List.getD x (Int.toNat (aA (aB i))) (aC aF))/\0<List.length a)/\True)/\ifB (badR (wdM a) (List.getD x (Int.toNat (aA (aB i))) (aC aF))) (True/\aA (aB i)=yN (badR (wdM a)) x/\True) (∃ (i':{ k:Nat // k<=List.length x/\List.any (List.take k x) (badR (wdM a))=false }),List.length x-aB i'<List.length x-aB i/\IntKind.wrap IntKind.i64 (aA (aB i)+1)=aA (aB i')/\True)) (True/\-1=yN (badR (wdM a)) x/\True)) (by kernel_rfl) ?_
 obtain⟨hl,hb,h0⟩:=hp
 dsimp only[aA,asT,aB,aC] at *
 simp only[Int.toNat_natCast,bG,decide_eq_true_eq,decide_eq_false_iff_not,true_and,and_true]
 refine fun i=>⟨fun h1=>⟨⟨by omega,h1,fD hb (by omega),h0⟩,fun h2=>?_,fun h2=>⟨⟨i.1+1,by omega,?_⟩,by simp only;omega,?_⟩⟩,fun h1=>?_⟩
 ·exact(QJ (d:=[]) (by omega) i.2.2 h2).symm
 ·rw[mM (d:=[]) (by omega),i.2.2,h2];rfl
 ·rw[bH (by omega) (by omega)];rfl
 ·have h3:=i.2.2
  rw[List.take_of_length_le (by omega)] at h3
  exact(YK h3).symm
def c0u:Ctr:=⟨[tMR,.clo 133 (.pair (.ref tMR) .unit)],[tB],fun x=>(show MR from x.1).length<=1000000/\(∀ r ∈ (show MR from x.1),rG r)/\0<(show MR from x.2.1.1).length,fun x=>((show MR from x.1).any (badR (wdM (show MR from x.2.1.1))),())⟩
theorem b0Y:aT Tryz.prog 132 c0u:=by
 refine kM ((nil0.ad PL).ad b1D) [] Tryz.func132 rfl (by decide) (fun x=>[]) (fun x hp=>?_)
 obtain⟨x,⟨a,c⟩,u⟩:=x
 change List (List aF) at x
 change List (List aF) at a
 refine bZ (((List.length x<=1000000/\(∀ (r:List aF),r ∈ x->rG r)/\0<List.length a)/\True)/\True/\decide (yN (badR (wdM a)) x ≥ 0)=List.any x (badR (wdM a))/\True) (by kernel_rfl) ?_
 exact⟨⟨hp,trivial⟩,trivial,QK _ _,trivial⟩
def fP (a:MR):Int:=if 1<=a.length/\a.length<=64/\1<=wdM a/\wdM a<=64/\a.any (badR (wdM a))=false then 0 else 1
def iF (a:MR):Prop:=a.length<=1000000/\∀ r ∈ a,rG r
def c0t:Ctr:=⟨[tMR],[tI],fun x=>iF x.1,fun x=>(fP x.1,())⟩
theorem nH:aT Tryz.prog 88 c0t:=by
 refine kM ((nil0.ad PL).ad b0Y) [] Tryz.func88 rfl (by decide) (fun x=>[]) (fun x hp=>?_)
 obtain⟨a,u⟩:=x
 change List (List aF) at a
 refine bZ (let A₂:=(List.length (List.getD a 0 (aC aF)));let bJ:=(aA (List.length a) > 64);let A₀:=(bif bif decide (aA (List.length a)<1) then true else decide bJ then true else decide (aA A₂<1));let A₁:=(bif decide (aA (List.length a)<1) then true else decide bJ);(((decide (aA (List.length a)<1)==false)=true->(decide (aA (List.length a)<1)==false)=true/\True)/\((decide (aA (List.length a)<1)==false)=true->(decide (aA (List.length a)<1)==false)=true/\True)/\(decide (aA (List.length a)<1)=false->(decide (aA (List.length a)<1)==false)=true)/\((A₁==false)=true->(A₁==false)=true/\asT Int 0<=0/\0<aA (List.length a)/\True)/\((A₁==false)=true->(A₁==false)=true/\True)/\((A₁==false)=true->(A₁==false)=true/\True)/\((A₁==false)=true->(A₁==false)=true/\True)/\(A₁=false->(A₁==false)=true)/\((A₀==false)=true->(A₀==false)=true/\asT Int 0<=0/\0<aA (List.length a)/\True)/\((A₀==false)=true->(A₀==false)=true/\True)/\((A₀==false)=true->(A₀==false)=true/\True)/\((A₀==false)=true->(A₀==false)=true/\True)/\(A₀=false->(A₀==false)=true)/\True)/\ifB (bif bif bif decide (aA (List.length a)<1) then true else decide bJ then true else decide (aA A₂<1) then true else decide (aA A₂ > 64)) (True/\1=fP a/\True) (((List.length a<=1000000/\(∀ (r:List aF),r ∈ a->rG r)/\0<List.length a)/\True)/\ifB (List.any a (badR (wdM a))) (True/\1=fP a/\True) (True/\0=fP a/\True))) (by kernel_rfl) ?_
 dsimp only[aA,asT,aB,aC] at *
 simp only[Int.toNat_natCast,bG,decide_eq_true_eq,decide_eq_false_iff_not,true_and,and_true]
 have eL:∀ n:Nat,decide ((n:Int)<1)=decide (n<1):=fun n=>decide_eq_decide.mpr (by omega)
 have eG:∀ n:Nat,decide ((n:Int) > 64)=decide (n > 64):=fun n=>decide_eq_decide.mpr (by omega)
 rw[eL,eG,eL,eG]
 have g1:decide (a.length<1)=false->0<(a.length:Int):=fun h=>by have:=of_decide_eq_false h;omega
 have g2:fP a=bif (decide (a.length<1) || decide (a.length > 64) || decide ((a.getD 0 []).length<1) || decide ((a.getD 0 []).length > 64) || a.any (badR (wdM a))) then 1 else 0:=by
  unfold fP
  by_cases h1:a.length<1
  ·rw[if_neg (by omega),decide_eq_true h1];rfl
  ·by_cases h2:a.length > 64
   ·rw[if_neg (by omega),decide_eq_true h2];simp
   ·by_cases h3:(a.getD 0 []).length<1
    ·rw[if_neg (fun h=>by have:=h.2.2.1;unfold wdM at this;omega),decide_eq_true h3];simp
    ·by_cases h4:(a.getD 0 []).length > 64
     ·rw[if_neg (fun h=>by have:=h.2.2.2.1;unfold wdM at this;omega),decide_eq_true h4];simp
     ·rw[decide_eq_false h1,decide_eq_false h2,decide_eq_false h3,decide_eq_false h4]
      cases h5:a.any (badR (wdM a))
      ·rw[if_pos ⟨by omega,by omega,by unfold wdM;omega,by unfold wdM;omega,rfl⟩];rfl
      ·rw[if_neg (fun h=>Bool.noConfusion h.2.2.2.2)];rfl
 have hl:a.length<=1000000:=hp.1
 have hr:∀ r,r ∈ a->rG r:=hp.2
 rw[g2]
 have g4:decide (a.length<1)=true->(a.length:Int)<1:=fun h=>by have:=of_decide_eq_true h;omega
 have g3:(decide (a.length<1)=false->0<a.length):=fun h=>by have:=of_decide_eq_false h;omega
 generalize decide (a.length<1)=b1 at *
 generalize decide (a.length > 64)=b2 at *
 generalize decide ((a.getD 0 []).length<1)=b3 at *
 generalize decide ((a.getD 0 []).length > 64)=b4 at *
 generalize a.any (badR (wdM a))=b5 at *
 clear eL eG g2
 cases b1
 ·have k1:=g1 rfl
  have k3:=g3 rfl
  cases b2<;>cases b3<;>cases b4<;>cases b5<;>simp[k1,k3,hl]<;>exact hr
 ·simp[g4 rfl]
abbrev ML:Type:=List (List (List aF))
theorem a7H (a:MR):fP a=0\/fP a=1:=by unfold fP;split<;>simp
def fA (l:ML):Int:=if l.any (fun a=>fP a != 0) then 1 else 0
def b8s:Ctr:=⟨[.list tMR],[tI],fun x=>(show ML from x.1).length<=1000000/\∀ a ∈ (show ML from x.1),iF a,fun x=>(fA x.1,())⟩
theorem MP:aT Tryz.prog 109 b8s:=by
 refine kM (nil0.ad nH) [] Tryz.func109 rfl (by decide) (fun x=>[.inv {k:Nat // k<=(show ML from x.1).length/\((show ML from x.1).take k).any (fun a=>fP a != 0)=false} (fun k=>[(8,.val tI (k.1:Int))]) (fun k=>[]) (fun k=>(show ML from x.1).length-k.1) ⟨0,by omega,rfl⟩ (fun _=>[])]) (fun x hp=>?_)
 obtain⟨x,u⟩:=x
 change List (List (List aF)) at x
 refine bZ ((asT Int 0=0/\True)/\∀ (i:{ k:Nat // k<=List.length x/\(List.any (List.take k x) fun(a:List (List aF))=>fP a != 0)=false }),asT Bool true=true/\ifB (decide (aA (aB i)<aA (List.length x))) ((0<=aA (aB i)/\aA (aB i)<aA (List.length x)/\True)/\(iF (List.getD x (Int.toNat (aA (aB i))) (aC (List aF)))/\True)/\ifB (fP (List.getD x (Int.toNat (aA (aB i))) (aC (List aF))) != 0) (True/\fP (List.getD x (Int.toNat (aA (aB i))) (aC (List aF)))=fA x/\True) (∃ (i':{ k:Nat // k<=List.length x/\(List.any (List.take k x) fun(a:List (List aF))=>fP a != 0)=false }),List.length x-aB i'<List.length x-aB i/\IntKind.wrap IntKind.i64 (aA (aB i)+1)=aA (aB i')/\True)) (True/\0=fA x/\True)) (by kernel_rfl) ?_
 obtain⟨hl,hb⟩:=hp
 dsimp only[aA,asT,aB,aC] at *
 simp only[Int.toNat_natCast,bG,decide_eq_true_eq,decide_eq_false_iff_not,true_and,and_true]
 refine fun i=>⟨fun h1=>⟨⟨by omega,h1⟩,fD hb (by omega),fun h2=>?_,fun h2=>⟨⟨i.1+1,by omega,?_⟩,by simp only;omega,?_⟩⟩,fun h1=>?_⟩
 ·have hi:i.1<x.length:=by omega
  have h3:x.any (fun a=>fP a != 0)=true:=List.any_eq_true.mpr ⟨x.getD i.1 [],by rw[List.getD_eq_getElem?_getD,List.getElem?_eq_getElem hi];exact List.getElem_mem hi,h2⟩
  unfold fA;rw[h3]
  rcases a7H (x.getD i.1 []) with h|h
  ·rw[h] at h2;exact absurd h2 (by decide)
  ·rw[h];rfl
 ·rw[mM (d:=[]) (by omega),i.2.2,h2];rfl
 ·rw[bH (by omega) (by omega)];rfl
 ·have h3:=i.2.2
  rw[List.take_of_length_le (by omega)] at h3
  unfold fA;rw[h3];rfl
abbrev MQ:Type:=List (List Rat)
abbrev ent (a:MQ) (i j:Nat):Rat:=(a.getD i []).getD j 0
def tab (R C:Nat) (f:Nat->Nat->Rat):MQ:=(List.range R).map fun i=>(List.range C).map fun j=>f i j
def aS (R C:Nat) (f:Nat->Nat->Rat):MR:=(List.range R).map fun i=>(List.range C).map fun j=>dR (f i j)
def isM (a:MQ) (R C:Nat):Prop:=a.length=R/\(∀ r ∈ a,r.length=C)/\1<=R/\R<=64/\1<=C/\C<=64
theorem aU (R C:Nat) (f:Nat->Nat->Rat):(aS R C f).length=R:=by simp[aS]
theorem a8P {α:Type} (X:List (List α)) (Z:List α) {k:Nat} (hk:k<X.length):List.map (fun i=>(X++[Z]).getD i []) ((List.range X.length).set k X.length)=X.set k Z:=by
 apply List.ext_getElem
 ·simp
 ·intro i h1 h2
  have hi:i<X.length:=by simpa using h2
  rw[List.getElem_map,List.getElem_set,List.getElem_set]
  split
  ·simp
  ·rw[List.getElem_range,List.getD_eq_getElem?_getD,List.getElem?_append_left hi,List.getElem?_eq_getElem hi];rfl
theorem b1M (n k:Nat):((List.range n).set k n).Nodup:=by
 refine List.nodup_iff_pairwise_ne.mpr (List.pairwise_iff_getElem.mpr fun i j hi hj h=>?_)
 have h1:i<n:=by simpa using hi
 have h2:j<n:=by simpa using hj
 rw[List.getElem_set,List.getElem_set]
 split<;>split<;>simp<;>omega
theorem a8Q {α:Type} {H:List (List α)} {k R:Nat} (hH:H.length=k) (hk:k<R) (Z:List α):(H++List.replicate (R-k) []).set k Z=H++[Z]++List.replicate (R-k-1) []:=by
 obtain⟨d,rfl⟩:∃ d,R=k+d+1:=⟨R-k-1,by omega⟩
 subst hH
 rw[show H.length+d+1-H.length=d+1 by omega,show d+1-1=d by omega,List.set_append_right _ _ (Nat.le_refl _),Nat.sub_self,List.replicate_succ,List.set_cons_zero]
 simp
theorem a4P {α:Type} {H T:List (List α)} {k:Nat} (hH:H.length=k) (Z:List α):rowAt (H++[Z]++T) k=Z:=by
 subst hH;unfold rowAt;simp
theorem a8S {α:Type} {H T:List (List α)} {k:Nat} (hH:H.length=k) (Z Y:List α):(H++[Z]++T).set k Y=H++[Y]++T:=by
 subst hH;simp
theorem a8R {α:Type} (g:Nat->α) (z:α) {q C:Nat} (h:q<C):(List.map g (List.range q)++List.replicate (C-q) z).set q (g q)=List.map g (List.range (q+1))++List.replicate (C-(q+1)) z:=by
 obtain⟨d,rfl⟩:∃ d,C=q+d+1:=⟨C-q-1,by omega⟩
 rw[show q+d+1-q=d+1 by omega,show q+d+1-(q+1)=d by omega,List.set_append_right _ _ (by simp),List.range_succ]
 simp[List.replicate_succ]
theorem a6W (k C:Nat) (f:Nat->Nat->Rat):aS (k+1) C f=aS k C f++[List.map (fun j=>dR (f k j)) (List.range C)]:=by unfold aS;rw[List.range_succ];simp
theorem jS {α:Type} {p:α->Prop}:∀ {xs:List α},dO p xs↔∀ x ∈ xs,p x
 | []=>by simp[dO]
 | x::xs=>by simp[dO,jS (xs:=xs)]
theorem rU (R C:Nat) (f:Nat->Nat->Rat):dO (fun x=>aV [dO (fun x=>aV [aF.ok x=true]) x]) (aS R C f):=by
 refine jS.mpr fun r hr=>⟨jS.mpr fun q hq=>⟨?_,trivial⟩,trivial⟩
 obtain⟨i,_,rfl⟩:=List.mem_map.mp hr
 obtain⟨j,_,rfl⟩:=List.mem_map.mp hq
 rfl
theorem xY (R C:Nat) (f:Nat->Nat->Rat):List.map (fun xs=>List.map (fun x=>aF.x x) xs) (aS R C f)=tab R C f:=by
 unfold aS tab;simp[dR,Function.comp_def]
end Go.Proofs.YtgplhbhfdgempaaGreat
