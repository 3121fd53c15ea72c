/-
  Lemmas for the theorem vestimables_holds, part 21 of 36.
-/
import Derived.Test.YtgplhbhfdgempaaGreatQe20
namespace Go.Proofs.YtgplhbhfdgempaaGreat
open Go Go.RowKit
theorem Di:type_of% @List.take_add_one:=@List.take_add_one
theorem yj:type_of% @List.any_eq_false:=@List.any_eq_false
theorem au:type_of% @decide_eq_false_iff_not:=@decide_eq_false_iff_not
theorem oh:type_of% @true_and:=@true_and
theorem tu:type_of% @Bool.not_eq_false':=@Bool.not_eq_false'
theorem jo:type_of% @beq_eq_false_iff_ne:=@beq_eq_false_iff_ne
theorem Ce:type_of% @of_decide_eq_false:=@of_decide_eq_false
theorem pz:type_of% @decide_eq_true:=@decide_eq_true
theorem ru:type_of% @of_decide_eq_true:=@of_decide_eq_true
set_option maxRecDepth 100000
set_option maxHeartbeats 4000000
set_option linter.unusedSimpArgs false
set_option linter.unusedVariables false
def MO (x y:Rat):Int:=if x<y then -1 else if y<x then 1 else 0
theorem b3d (x y:Rat):dU (x.num*y.den) (y.num*x.den)=MO x y:=by
 unfold dU MO
 simp only[a5a]
theorem a4n (v u:Value) (o1 o2:Bool) (x y:Rat) (w:World) (h1:iE w v o1 x) (h2:iE w u o2 y) (n1:Qn v 400000000) (n2:Qn u 400000000) (hy:y≠0) :
  Calls Tryz.prog 173 #[v,u] w (GQC (x / y) 0 w):=by
 obtain⟨b,p,n,c,d,o,m,e,rfl⟩:=h1.form
 obtain⟨f,i,j,k,g,r,t,a,rfl⟩:=h2.form
 have hl:=h1.lC n1 (by omega)
 have hl2:=h2.lC n2 (by omega)
 have m1:=n1.up (show 400000000<=1000000000 by omega)
 have m2:=n2.up (show 400000000<=1000000000 by omega)
 have b1:=fB x
 have b2:=eF x
 have b3:=fB y
 have b4:=eF y
 have c1:=eY x.num y.den
 have c4:=eY x.den y.num
 have HX:=dn (a1g x y)
 have hn0:y.num≠0:=fun h=>hy ((zM y).1 h)
 have hd0:(x.den:Int)*y.num≠0:=fun h=>by
  have:=x.den_nz
  rcases Int.mul_eq_zero.1 h with h|h<;>omega
 have c2h:(sgn y.num==0)=false:=by have:=b2b hn0;simpa using this
 clear hy hn0
 have cZ:Below w.heap.size w w:=dw _ _
 go_enter Tryz.func173,Tryz.ntmps173
 go_wp2_with fail
 obtain⟨hA1,y0,z0,j1⟩:=bx3 w rfl [.bool b,.slice p n c,.bool d,.slice o m e] 64 [.bool f,.slice i j k,.bool g,.slice r t a] 64 [.bool false,.slice none 0 0,.bool false,.slice none 0 0] 64
 obtain⟨f2,t2,j2,x2,l2,z2,r2,c3⟩:=y0.drew.cf4
 obtain⟨e3,q3,h3,s3,k3,u3,n3,x3⟩:=z0.drew.cf4
 have tk1:True:=trivial
 have tk2:True:=trivial
 go_region_with
  (first
   | (((have:=tk1);clear tk1;have k1:=(h1.below hA1).drew;go_at_call 119;(with_reducible refine(jE _ _ (x) _ k1 m1).mono ?_);rintro e w1 ⟨v1,rfl,hi1,hb1⟩;obtain⟨g1,p1,n1,c1,h1,o1,m1,e1,rfl⟩:=hi1.form;have dV:=(z0.drew.to hb1);obtain⟨f3,r3,i3,t3,l3,v3,o3,y3⟩:=dV.cf4;have dO:=(y0.drew.to hb1);obtain⟨i2,u2,k2,y2,q2,a3,s2,d3⟩:=dO.cf4))
   | (((have:=tk2);clear tk2;have a0J:=((h2.below hA1).drew.below hb1);have l1:=a0J;go_at_call 119;(with_reducible refine(jE _ _ (y) _ l1 m2).mono ?_);rintro e w2 ⟨v2,rfl,hi2,hb2⟩;obtain⟨g2,p2,n2,c2,h2,o2,m2,e2,rfl⟩:=hi2.form;have dL:=(dO.to hb2);obtain⟨a0,e0,b0,f0,c0,g0,d0,h0⟩:=dL.cf4;have dM:=(dV.to hb2);obtain⟨i0,m0,j0,n0,k0,o0,l0,p0⟩:=dM.cf4)))
 all_goals
  obtain⟨g3,j3,m3,p3⟩:=((dM.fF (b:=w.heap.size) (by omega) (.bool g1) (.slice p1 n1 c1) (.bool h1) (.slice o1 m1 e1)).vW (.bool g2) (.slice p2 n2 c2) (.bool h2) (.slice o2 m2 e2)).cs4
  go_wp2_with fail
  have q1:=((hi2.bG dL rfl rfl rfl rfl (.bool g1) (.slice p1 n1 c1) (.bool h1) (.slice o1 m1 e1)).bG (dM.fF (b:=w.heap.size) (by omega) (.bool g1) (.slice p1 n1 c1) (.bool h1) (.slice o1 m1 e1)) rfl rfl rfl rfl (.bool g2) (.slice p2 n2 c2) (.bool h2) (.slice o2 m2 e2)).num.raw
  (with_reducible refine(rZ _ (((y)).num) _ q1).mono ?_)
  rintro e w3 ⟨rfl,hb3⟩
  go_wp2_with fail
  have lQ:=(((dL.vW (.bool g1) (.slice p1 n1 c1) (.bool h1) (.slice o1 m1 e1)).fF (b:=w.heap.size+1) (by omega) (.bool g2) (.slice p2 n2 c2) (.bool h2) (.slice o2 m2 e2)).to hb3)
  have qB:=(((dM.fF (b:=w.heap.size) (by omega) (.bool g1) (.slice p1 n1 c1) (.bool h1) (.slice o1 m1 e1)).vW (.bool g2) (.slice p2 n2 c2) (.bool h2) (.slice o2 m2 e2)).to hb3)
  have LJ:=(((((j1.drew.to hb1).to hb2).fF (b:=w.heap.size) (by omega) (.bool g1) (.slice p1 n1 c1) (.bool h1) (.slice o1 m1 e1)).fF (b:=w.heap.size+1) (by omega) (.bool g2) (.slice p2 n2 c2) (.bool h2) (.slice o2 m2 e2)).to hb3)
  have c3f:=(aK.mk (lQ.drew).bs4 (aK.mk (qB.drew).bs4 (BN.of (LJ.drew))))
  have f1:dP (w.heap.size+1+1) (aK (BS4 w.heap.size (.bool g1) (.slice p1 n1 c1) (.bool h1) (.slice o1 m1 e1)) (aK (BS4 (w.heap.size+1) (.bool g2) (.slice p2 n2 c2) (.bool h2) (.slice o2 m2 e2)) (BN (w.heap.size+1+1)))):=(aK.hc (BS4.hc (by omega)) (aK.hc (BS4.hc (by omega)) BN.hc))
  have tk3:True:=trivial
  have tk4:True:=trivial
  have tk5:True:=trivial
  go_region_held3 (aK (BS4 w.heap.size (.bool g1) (.slice p1 n1 c1) (.bool h1) (.slice o1 m1 e1)) (aK (BS4 (w.heap.size+1) (.bool g2) (.slice p2 n2 c2) (.bool h2) (.slice o2 m2 e2)) (BN (w.heap.size+1+1)))) (first|with_reducible exact c3f|with_reducible exact iD.go (aK.hk BS4.hk (aK.hk BS4.hk BN.hk)) (by assumption) (by assumption)|with_reducible exact dP.go4 f1 (by assumption)|(simp;done))
   (first
    | (((have:=tk3);clear tk3;have a1:=((((hi1.below hb2).bG dL rfl rfl rfl rfl (.bool g1) (.slice p1 n1 c1) (.bool h1) (.slice o1 m1 e1)).bG (dM.fF (b:=w.heap.size) (by omega) (.bool g1) (.slice p1 n1 c1) (.bool h1) (.slice o1 m1 e1)) rfl rfl rfl rfl (.bool g2) (.slice p2 n2 c2) (.bool h2) (.slice o2 m2 e2)).below hb3);have r1:=a1.drew.num.raw;have d1:=(((hi2.bG dL rfl rfl rfl rfl (.bool g1) (.slice p1 n1 c1) (.bool h1) (.slice o1 m1 e1)).bG (dM.fF (b:=w.heap.size) (by omega) (.bool g1) (.slice p1 n1 c1) (.bool h1) (.slice o1 m1 e1)) rfl rfl rfl rfl (.bool g2) (.slice p2 n2 c2) (.bool h2) (.slice o2 m2 e2)).below hb3);have s1:=d1.drew.den.raw;go_at_call 136;(with_reducible refine(mul_any _ _ (((x)).num) ((((y)).den:Int)) _ r1 s1 (by omega) (by omega)).mono ?_);rintro e w4 ⟨v4,rfl,hi4,hb4⟩;obtain⟨g4,p4,n4,c4,rfl⟩:=hi4.form))
    | (((have:=tk4);clear tk4;have z1:=(a1.drew.below hb4);have t1:=z1.den.raw;have a2:=(d1.drew.below hb4);have u1:=a2.num.raw;go_at_call 136;(with_reducible refine(mul_any _ _ ((((x)).den:Int)) (((y)).num) _ t1 u1 (by omega) (by omega)).mono ?_);rintro e w5 ⟨v5,rfl,hi5,hb5⟩;obtain⟨g5,p5,n5,c5,rfl⟩:=hi5.form))
    | (((have:=tk5);clear tk5;have d2:=(hi4.below hb5);have x1:=d2;have y1:=hi5;go_at_call 151;(with_reducible refine(zN _ _ ((((x)).num)*((((y)).den:Int))) (((((x)).den:Int))*(((y)).num)) _ x1 y1 (by omega) (by omega) hd0).mono ?_);rintro e w6 ⟨v6,rfl,hi6,hb6⟩;obtain⟨g6,p6,n6,c6,h6,o6,m6,e6,rfl⟩:=hi6.form;have sW:=(((LJ.drew.to hb4).to hb5).to hb6);obtain⟨q0,u0,r0,v0,s0,w0,t0,x0⟩:=sW.cf4)))
  have i1:=(Below.tr (Below.tr (Below.tr (Below.tr (Below.bG (Below.bG (Below.tr (Below.tr (Below.tr cZ hA1).drew hb1) hb2) (b:=w.heap.size) (by omega) (.bool g1) (.slice p1 n1 c1) (.bool h1) (.slice o1 m1 e1)) (b:=w.heap.size+1) (by omega) (.bool g2) (.slice p2 n2 c2) (.bool h2) (.slice o2 m2 e2)) hb3).drew hb4) hb5) hb6)
  go_wp2_with fail
  exact jh (v:=.tuple #[.agg #[.bool g6,.slice p6 n6 c6,.bool h6,.slice o6 m6 e6],.int .i64 0]) (by simp[results,Tryz.results173,go_sem,a0,e0,b0,f0,c0,g0,d0,h0,i0,m0,j0,n0,k0,o0,l0,p0,q0,u0,r0,v0,s0,w0,t0,x0]) rfl ⟨_,rfl,by rw[<-HX.out];exact(hi6.bG sW rfl rfl rfl rfl (.bool g6) (.slice p6 n6 c6) (.bool h6) (.slice o6 m6 e6)),(Below.bG i1 (b:=w.heap.size+1+1) (by omega) (.bool g6) (.slice p6 n6 c6) (.bool h6) (.slice o6 m6 e6))⟩
theorem a4m (v u:Value) (o1 o2:Bool) (x y:Rat) (w:World) (h1:iE w v o1 x) (h2:iE w u o2 y) (n1:Qn v 400000000) (n2:Qn u 400000000) (hy:y=0) :
  Calls Tryz.prog 173 #[v,u] w (c0E 14 w):=by
 obtain⟨b,p,n,c,d,o,m,e,rfl⟩:=h1.form
 obtain⟨f,i,j,k,g,r,t,a,rfl⟩:=h2.form
 have hl:=h1.lC n1 (by omega)
 have hl2:=h2.lC n2 (by omega)
 have m1:=n1.up (show 400000000<=1000000000 by omega)
 have m2:=n2.up (show 400000000<=1000000000 by omega)
 have b1:=fB x
 have b2:=eF x
 have b3:=fB y
 have b4:=eF y
 have c2h:(sgn y.num==0)=true:=by rw[hy];rfl
 clear hy
 have cZ:Below w.heap.size w w:=dw _ _
 go_enter Tryz.func173,Tryz.ntmps173
 go_wp2_with fail
 obtain⟨hA1,y0,z0,d1⟩:=bx3 w rfl [.bool b,.slice p n c,.bool d,.slice o m e] 64 [.bool f,.slice i j k,.bool g,.slice r t a] 64 [.bool false,.slice none 0 0,.bool false,.slice none 0 0] 64
 obtain⟨k1,y1,q1,a2,s1,f2,u1,j2⟩:=y0.drew.cf4
 obtain⟨l2,e3,s2,g3,x2,i3,a3,k3⟩:=z0.drew.cf4
 have tk1:True:=trivial
 have tk2:True:=trivial
 go_region_with
  (first
   | (((have:=tk1);clear tk1;have f1:=(h1.below hA1).drew;go_at_call 119;(with_reducible refine(jE _ _ (x) _ f1 m1).mono ?_);rintro e w1 ⟨v1,rfl,hi1,hb1⟩;obtain⟨g1,p1,n1,c1,h1,o1,m1,e1,rfl⟩:=hi1.form;have dV:=(z0.drew.to hb1);obtain⟨q2,f3,t2,h3,y2,j3,c3,l3⟩:=dV.cf4;have dO:=(y0.drew.to hb1);obtain⟨l1,z1,r1,d2,t1,i2,x1,k2⟩:=dO.cf4))
   | (((have:=tk2);clear tk2;have a0J:=((h2.below hA1).drew.below hb1);have i1:=a0J;go_at_call 119;(with_reducible refine(jE _ _ (y) _ i1 m2).mono ?_);rintro e w2 ⟨v2,rfl,hi2,hb2⟩;obtain⟨g2,p2,n2,c2,h2,o2,m2,e2,rfl⟩:=hi2.form;have dL:=(dO.to hb2);obtain⟨a0,e0,b0,f0,c0,g0,d0,h0⟩:=dL.cf4;have dM:=(dV.to hb2);obtain⟨i0,m0,j0,n0,k0,o0,l0,p0⟩:=dM.cf4)))
 all_goals
  obtain⟨r2,u2,z2,d3⟩:=((dM.fF (b:=w.heap.size) (by omega) (.bool g1) (.slice p1 n1 c1) (.bool h1) (.slice o1 m1 e1)).vW (.bool g2) (.slice p2 n2 c2) (.bool h2) (.slice o2 m2 e2)).cs4
  go_wp2_with fail
  have j1:=((hi2.bG dL rfl rfl rfl rfl (.bool g1) (.slice p1 n1 c1) (.bool h1) (.slice o1 m1 e1)).bG (dM.fF (b:=w.heap.size) (by omega) (.bool g1) (.slice p1 n1 c1) (.bool h1) (.slice o1 m1 e1)) rfl rfl rfl rfl (.bool g2) (.slice p2 n2 c2) (.bool h2) (.slice o2 m2 e2)).num.raw
  (with_reducible refine(rZ _ (((y)).num) _ j1).mono ?_)
  rintro e w3 ⟨rfl,hb3⟩
  have LJ:=(((((d1.drew.to hb1).to hb2).fF (b:=w.heap.size) (by omega) (.bool g1) (.slice p1 n1 c1) (.bool h1) (.slice o1 m1 e1)).fF (b:=w.heap.size+1) (by omega) (.bool g2) (.slice p2 n2 c2) (.bool h2) (.slice o2 m2 e2)).to hb3)
  obtain⟨q0,u0,r0,v0,s0,w0,t0,x0⟩:=LJ.cf4
  have a1:=(Below.tr (Below.bG (Below.bG (Below.tr (Below.tr (Below.tr cZ hA1).drew hb1) hb2) (b:=w.heap.size) (by omega) (.bool g1) (.slice p1 n1 c1) (.bool h1) (.slice o1 m1 e1)) (b:=w.heap.size+1) (by omega) (.bool g2) (.slice p2 n2 c2) (.bool h2) (.slice o2 m2 e2)) hb3)
  go_wp2_with fail
  exact jh (v:=.tuple #[.agg #[.bool false,.slice none 0 0,.bool false,.slice none 0 0],.int .i64 14]) (by simp[results,Tryz.results173,go_sem,a0,e0,b0,f0,c0,g0,d0,h0,i0,m0,j0,n0,k0,o0,l0,p0,q0,u0,r0,v0,s0,w0,t0,x0]) rfl ⟨rfl,(Below.bG a1 (b:=w.heap.size+1+1) (by omega) (.bool false) (.slice none 0 0) (.bool false) (.slice none 0 0))⟩
theorem a0w (v u:Value) (o1 o2:Bool) (x y:Rat) (w:World) (h1:iE w v o1 x) (h2:iE w u o2 y) (n1:Qn v 400000000) (n2:Qn u 400000000) :
  Calls Tryz.prog 89 #[v,u] w (fun e w'=>e=.returned (.int .i64 (MO x y))/\Below w.heap.size w w'):=by
 obtain⟨b,p,n,c,d,o,m,e,rfl⟩:=h1.form
 obtain⟨f,i,j,k,g,r,t,a,rfl⟩:=h2.form
 have hl:=h1.lC n1 (by omega)
 have hl2:=h2.lC n2 (by omega)
 have m1:=n1.up (show 400000000<=1000000000 by omega)
 have m2:=n2.up (show 400000000<=1000000000 by omega)
 have b1:=fB x
 have b2:=eF x
 have b3:=fB y
 have b4:=eF y
 have c1:=eY x.num y.den
 have c2:=eY y.num x.den
 have cZ:Below w.heap.size w w:=dw _ _
 go_enter Tryz.func89,Tryz.ntmps89
 go_wp2_with fail
 obtain⟨hA1,a0,b0⟩:=bx2 w rfl [.bool b,.slice p n c,.bool d,.slice o m e] 64 [.bool f,.slice i j k,.bool g,.slice r t a] 64
 obtain⟨p0,d1,s0,j1,v0,q1,y0,t1⟩:=a0.drew.cf4
 obtain⟨y1,t2,d2,y2,j2,d3,q2,h3⟩:=b0.drew.cf4
 have tk1:True:=trivial
 have tk2:True:=trivial
 go_region_with
  (first
   | (((have:=tk1);clear tk1;have e0:=(h1.below hA1).drew;go_at_call 119;(with_reducible refine(jE _ _ (x) _ e0 m1).mono ?_);rintro e w1 ⟨v1,rfl,hi1,hb1⟩;obtain⟨g1,p1,n1,c1,h1,o1,m1,e1,rfl⟩:=hi1.form;have dV:=(b0.drew.to hb1);obtain⟨z1,u2,f2,z2,k2,e3,r2,i3⟩:=dV.cf4;have dO:=(a0.drew.to hb1);obtain⟨q0,f1,t0,k1,w0,r1,z0,u1⟩:=dO.cf4))
   | (((have:=tk2);clear tk2;have a0J:=((h2.below hA1).drew.below hb1);have f0:=a0J;go_at_call 119;(with_reducible refine(jE _ _ (y) _ f0 m2).mono ?_);rintro e w2 ⟨v2,rfl,hi2,hb2⟩;obtain⟨g2,p2,n2,c2,h2,o2,m2,e2,rfl⟩:=hi2.form;have dL:=(dO.to hb2);obtain⟨r0,i1,u0,l1,x0,s1,a1,x1⟩:=dL.cf4;have dM:=(dV.to hb2);obtain⟨a2,x2,i2,a3,l2,f3,s2,j3⟩:=dM.cf4)))
 all_goals
  go_wp2_with fail
  have a0h:=(aK.mk (((dL.vW (.bool g1) (.slice p1 n1 c1) (.bool h1) (.slice o1 m1 e1)).fF (b:=w.heap.size+1) (by omega) (.bool g2) (.slice p2 n2 c2) (.bool h2) (.slice o2 m2 e2)).drew).bs4 (((dM.fF (b:=w.heap.size) (by omega) (.bool g1) (.slice p1 n1 c1) (.bool h1) (.slice o1 m1 e1)).vW (.bool g2) (.slice p2 n2 c2) (.bool h2) (.slice o2 m2 e2)).drew).bs4)
  have tk3:True:=trivial
  have tk4:True:=trivial
  have tk5:True:=trivial
  go_region_held3 (aK (BS4 w.heap.size (.bool g1) (.slice p1 n1 c1) (.bool h1) (.slice o1 m1 e1)) (BS4 (w.heap.size+1) (.bool g2) (.slice p2 n2 c2) (.bool h2) (.slice o2 m2 e2))) (first|with_reducible exact a0h|with_reducible exact iD.go (aK.hk BS4.hk BS4.hk) (by assumption) (by assumption)|(simp;done))
   (first
    | (((have:=tk3);clear tk3;have c0:=(hi1.below hb2);have g0:=((c0.bG dL rfl rfl rfl rfl (.bool g1) (.slice p1 n1 c1) (.bool h1) (.slice o1 m1 e1)).bG (dM.fF (b:=w.heap.size) (by omega) (.bool g1) (.slice p1 n1 c1) (.bool h1) (.slice o1 m1 e1)) rfl rfl rfl rfl (.bool g2) (.slice p2 n2 c2) (.bool h2) (.slice o2 m2 e2)).drew.num.raw;have h0:=((hi2.bG dL rfl rfl rfl rfl (.bool g1) (.slice p1 n1 c1) (.bool h1) (.slice o1 m1 e1)).bG (dM.fF (b:=w.heap.size) (by omega) (.bool g1) (.slice p1 n1 c1) (.bool h1) (.slice o1 m1 e1)) rfl rfl rfl rfl (.bool g2) (.slice p2 n2 c2) (.bool h2) (.slice o2 m2 e2)).drew.den.raw;go_at_call 136;(with_reducible refine(mul_any _ _ (((x)).num) ((((y)).den:Int)) _ g0 h0 (by omega) (by omega)).mono ?_);rintro e w3 ⟨v3,rfl,hi3,hb3⟩;obtain⟨g3,p3,n3,c3,rfl⟩:=hi3.form))
    | (((have:=tk4);clear tk4;have n0:=(((hi2.bG dL rfl rfl rfl rfl (.bool g1) (.slice p1 n1 c1) (.bool h1) (.slice o1 m1 e1)).bG (dM.fF (b:=w.heap.size) (by omega) (.bool g1) (.slice p1 n1 c1) (.bool h1) (.slice o1 m1 e1)) rfl rfl rfl rfl (.bool g2) (.slice p2 n2 c2) (.bool h2) (.slice o2 m2 e2)).drew.below hb3);have i0:=n0.num.raw;have m0:=(((c0.bG dL rfl rfl rfl rfl (.bool g1) (.slice p1 n1 c1) (.bool h1) (.slice o1 m1 e1)).bG (dM.fF (b:=w.heap.size) (by omega) (.bool g1) (.slice p1 n1 c1) (.bool h1) (.slice o1 m1 e1)) rfl rfl rfl rfl (.bool g2) (.slice p2 n2 c2) (.bool h2) (.slice o2 m2 e2)).drew.below hb3);have j0:=m0.den.raw;go_at_call 136;(with_reducible refine(mul_any _ _ (((y)).num) ((((x)).den:Int)) _ i0 j0 (by omega) (by omega)).mono ?_);rintro e w4 ⟨v4,rfl,hi4,hb4⟩;obtain⟨g4,p4,n4,c4,rfl⟩:=hi4.form))
    | (((have:=tk5);clear tk5;have o0:=(hi3.below hb4);have k0:=o0.raw;have l0:=hi4.raw;go_at_call 135;(with_reducible refine(JW _ _ ((((x)).num)*((((y)).den:Int))) ((((y)).num)*((((x)).den:Int))) _ k0 l0).mono ?_);rintro e w5 ⟨rfl,hb5⟩)))
  have d0:=(Below.tr (Below.tr (Below.tr (Below.bG (Below.bG (Below.tr (Below.tr (Below.tr cZ hA1).drew hb1) hb2) (b:=w.heap.size) (by omega) (.bool g1) (.slice p1 n1 c1) (.bool h1) (.slice o1 m1 e1)) (b:=w.heap.size+1) (by omega) (.bool g2) (.slice p2 n2 c2) (.bool h2) (.slice o2 m2 e2)).drew hb3) hb4) hb5)
  go_wp2_with fail
  go_ret
  exact⟨iR (b3d x y),d0⟩
theorem a0v (v u:Value) (x y:Rat) (w:World) (h1:RQ w v x) (h2:RQ w u y) (l1:rsz x<=400000000) (l2:rsz y<=400000000) :
 Calls Tryz.prog 89 #[v,u] w (fun e w'=>e=.returned (.int .i64 (MO x y))/\Below w.heap.size w w'):=a0w v u true true x y w h1.raw h2.raw (h1.qn l1) (h2.qn l2)
theorem b3n (v u:Value) (x y:Rat) (w:World) (h1:RQ w v x) (h2:RQ w u y) (l1:rsz x<=400000000) (l2:rsz y<=400000000) (hy:y≠0) :
 Calls Tryz.prog 173 #[v,u] w (GQC (x / y) 0 w):=a4n v u true true x y w h1.raw h2.raw (h1.qn l1) (h2.qn l2) hy
theorem b2s (v u:Value) (o1 o2:Bool) (x y:Rat) (w:World) (fa:iE w v o1 x) (fb:iE w u o2 y) (qa:Qn v 400000000) (qb:Qn u 400000000) :
  Calls Tryz.prog 145 #[v,u] w (GQ (x-y) w):=by
 obtain⟨b,p,n,c,d,o,m,e,rfl⟩:=fa.form
 obtain⟨f,i,j,k,g,r,t,a,rfl⟩:=fb.form
 have hl:=fa.lC qa (by omega)
 have hl2:=fb.lC qb (by omega)
 have ma:=qa.up (show 400000000<=1000000000 by omega)
 have mb:=qb.up (show 400000000<=1000000000 by omega)
 have b1:=fB x
 have b2:=eF x
 have b3:=fB y
 have b4:=eF y
 have hc5:rsz (-y)<=400000000:=by rw[a1o];exact hl2
 have cZ:Below w.heap.size w w:=dw _ _
 go_enter Tryz.func145,Tryz.ntmps145
 go_wp2_with fail
 obtain⟨hA1,l0,m0,i0⟩:=bx3 w rfl [.bool b,.slice p n c,.bool d,.slice o m e] 64 [.bool f,.slice i j k,.bool g,.slice r t a] 64 [.bool false,.slice none 0 0,.bool false,.slice none 0 0] 64
 have yQ:=(aK.mk (l0.drew).bs4 (aK.mk (m0.drew).bs4 (BN.of (i0.drew))))
 have j0:dP (w.heap.size+1+1) (aK (BS4 w.heap.size (.bool b) (.slice p n c) (.bool d) (.slice o m e)) (aK (BS4 (w.heap.size+1) (.bool f) (.slice i j k) (.bool g) (.slice r t a)) (BN (w.heap.size+1+1)))):=(aK.hc (BS4.hc (by omega)) (aK.hc (BS4.hc (by omega)) BN.hc))
 have tk1:True:=trivial
 have tk2:True:=trivial
 go_region_held3 (aK (BS4 w.heap.size (.bool b) (.slice p n c) (.bool d) (.slice o m e)) (aK (BS4 (w.heap.size+1) (.bool f) (.slice i j k) (.bool g) (.slice r t a)) (BN (w.heap.size+1+1)))) (first|with_reducible exact yQ|with_reducible exact iD.go (aK.hk BS4.hk (aK.hk BS4.hk BN.hk)) (by assumption) (by assumption)|with_reducible exact dP.go4 j0 (by assumption)|(simp;done))
  (first
   | (((have:=tk1);clear tk1;have n0:=(fb.below hA1).drew;go_at_call 93;(with_reducible refine(a3c _ _ (y) _ n0 mb).mono ?_);rintro e w1 ⟨v1,rfl,hi1,hb1⟩;obtain⟨g1,p1,n1,c1,h1,o1,m1,e1,rfl⟩:=hi1.form))
   | (((have:=tk2);clear tk2;have b6g:=((fa.below hA1).drew.below hb1);have o0:=b6g;have p0:=hi1.raw;go_at_call 115;(with_reducible refine(a1M _ _ _ _ (x) (-(y)) _ o0 p0 qa (RQ.qn hi1 hc5)).mono ?_);rintro e w2 ⟨v2,rfl,hi2,hb2⟩;obtain⟨g2,p2,n2,c2,h2,o2,m2,e2,rfl⟩:=hi2.form;have lY:=((i0.drew.to hb1).to hb2);obtain⟨a0,e0,b0,f0,c0,g0,d0,h0⟩:=lY.cf4)))
 have k0:=(Below.tr (Below.tr (Below.tr cZ hA1).drew hb1) hb2)
 go_wp2_with fail
 exact jh (v:=.agg #[.bool g2,.slice p2 n2 c2,.bool h2,.slice o2 m2 e2]) (by simp[results,Tryz.results145,go_sem,a0,e0,b0,f0,c0,g0,d0,h0]) rfl ⟨_,rfl,by rw[Rat.sub_eq_add_neg];exact(hi2.bG lY rfl rfl rfl rfl (.bool g2) (.slice p2 n2 c2) (.bool h2) (.slice o2 m2 e2)),(Below.bG k0 (b:=w.heap.size+1+1) (by omega) (.bool g2) (.slice p2 n2 c2) (.bool h2) (.slice o2 m2 e2))⟩
theorem b2r (v u:Value) (x y:Rat) (w:World) (h1:RQ w v x) (h2:RQ w u y) (l1:rsz x<=400000000) (l2:rsz y<=400000000) :
 Calls Tryz.prog 145 #[v,u] w (GQ (x-y) w):=b2s v u true true x y w h1.raw h2.raw (h1.qn l1) (h2.qn l2)
set_option maxRecDepth 20000
theorem bP {G:Prop} (V:Prop) (h:V=G) (v:V):G:=h ▸ v
abbrev asT (α:Type) (x:α):α:=x
abbrev aC (α:Type):List α:=[]
abbrev aB (n:Nat):Int:=(n:Int)
abbrev fA (n:Int):Rat:=(n:Rat)
abbrev aA.{u} {α:Sort u} {p:α->Prop} (x:Subtype p):α:=x.1
abbrev tB:Ty:=.bool
abbrev tM:Ty:=.list (.list tQ)
def c1n (pre:Rat->Rat->Prop) (g:Rat->Rat->Bool):Ctr:=⟨[tQ,tQ],[tB],fun x=>pre x.1 x.2.1,fun x=>(g x.1 x.2.1,())⟩
theorem b2X {f:FuncId} {pre:Rat->Rat->Prop} {g:Rat->Rat->Bool} (h:∀ (v u:Value) (x y:Rat) (w:World),RQ w v x->RQ w u y->pre x y->Calls Tryz.prog f #[v,u] w (GB (g x y) w)):aW Tryz.prog f (c1n pre g):=by
 intro F w vs x hF hvs hp
 obtain⟨v,vs',rfl,h1,u,vs'',rfl,h2,h3⟩:=hvs
 have h3:vs''=[]:=h3
 subst h3
 refine(h v u x.1 x.2.1 w (wR h1) (wR h2) hp).mono ?_
 rintro e w' ⟨rfl,hb⟩
 exact⟨_,rfl,b2J _,hb⟩
def c1o (pre:Rat->Rat->Prop) (g:Rat->Rat->Int):Ctr:=⟨[tQ,tQ],[tI],fun x=>pre x.1 x.2.1,fun x=>(g x.1 x.2.1,())⟩
theorem b2Y {f:FuncId} {pre:Rat->Rat->Prop} {g:Rat->Rat->Int} (h:∀ (v u:Value) (x y:Rat) (w:World),RQ w v x->RQ w u y->pre x y->Calls Tryz.prog f #[v,u] w (fun e w'=>e=.returned (.int .i64 (g x y))/\Below w.heap.size w w')):aW Tryz.prog f (c1o pre g):=by
 intro F w vs x hF hvs hp
 obtain⟨v,vs',rfl,h1,u,vs'',rfl,h2,h3⟩:=hvs
 have h3:vs''=[]:=h3
 subst h3
 refine(h v u x.1 x.2.1 w (wR h1) (wR h2) hp).mono ?_
 rintro e w' ⟨rfl,hb⟩
 exact⟨_,rfl,a3Q _,hb⟩
def cQI (pre:Rat->Prop) (g:Rat->Int):Ctr:=⟨[tQ],[tI],fun x=>pre x.1,fun x=>(g x.1,())⟩
theorem a9j {f:FuncId} {pre:Rat->Prop} {g:Rat->Int} (h:∀ (v:Value) (x:Rat) (w:World),RQ w v x->pre x->Calls Tryz.prog f #[v] w (fun e w'=>e=.returned (.int .i64 (g x))/\Below w.heap.size w w')):aW Tryz.prog f (cQI pre g):=by
 intro F w vs x hF hvs hp
 obtain⟨v,vs',rfl,h1,h3⟩:=hvs
 have h3:vs'=[]:=h3
 subst h3
 refine(h v x.1 w (wR h1) hp).mono ?_
 rintro e w' ⟨rfl,hb⟩
 exact⟨_,rfl,a3Q _,hb⟩
def iW (i:Int):Prop:=-9223372036854775808<=i/\i<=9223372036854775807
def bU:aF:=⟨false,0,[],[]⟩
abbrev tR:Ty:=.lf .dG
abbrev tMR:Ty:=.list (.list tR)
theorem c0x {F:Nat->Prop} {w:World} {v:Value} {x:Rat} (h:RQ w v x):kE F w tR v (fD x):=by
 obtain⟨b,p,c,b',p',c',rfl,r1,r2⟩:=a3m h
 exact⟨_,rfl,b,p,c,b',p',c',rfl,h.raw,r1,r2⟩
theorem c0y {F:Nat->Prop} {w:World}:kE F w tR (.agg #[.bool false,.slice none 0 0,.bool false,.slice none 0 0]) bU :=
 ⟨[.bool false,.slice none 0 0,.bool false,.slice none 0 0],rfl,AO (.lf .dG) _ rfl⟩
def cVal (K:Nat):Ctr:=⟨[tR],[tB],fun x=>(show aF from x.1).n<=K/\(show aF from x.1).m<=K,fun x=>((show aF from x.1).ok,())⟩
theorem c2G {F:Nat->Prop} {w:World} {v:Value} {x:aF} (h:kE F w tR v x):iE w v x.ok x.x/\∀ K,x.n<=K->x.m<=K->Qn v K:=by
 obtain⟨cs,rfl,b,p,c,b',p',c',rfl,h2,_,_⟩:=h
 exact⟨h2,fun K h1 h2=>⟨b,p,_,c,b',p',_,c',rfl,h1,h2⟩⟩
theorem a5O {f:FuncId} {K:Nat} (h:∀ (v:Value) (ok:Bool) (q:Rat) (w:World),iE w v ok q->Qn v K->Calls Tryz.prog f #[v] w (fun e w'=>e=.returned (.bool ok)/\Below w.heap.size w w')):aW Tryz.prog f (cVal K):=by
 intro F w vs x hF hvs hp
 obtain⟨v,vs',rfl,h1,h3⟩:=hvs
 have h3:vs'=[]:=h3
 subst h3
 obtain⟨h4,h5⟩:=c2G h1
 refine(h v _ _ w h4 (h5 K hp.1 hp.2)).mono ?_
 rintro e w' ⟨rfl,hb⟩
 exact⟨_,rfl,b2J _,hb⟩
def b3o (e:Int) (x y:Rat):aF × Int × Unit:=if y=0 then (bU,e,()) else (fD (x / y),(0:Int),())
def a5N (K:Nat) (e:Int):Ctr:=⟨[tQ,tQ],[tR,tI],fun x=>rsz x.1<=K/\rsz x.2.1<=K,fun x=>b3o e x.1 x.2.1⟩
theorem a9g {f:FuncId} {K:Nat} {c:Int} (h:∀ (v u:Value) (x y:Rat) (w:World),RQ w v x->RQ w u y->rsz x<=K->rsz y<=K->y≠0->Calls Tryz.prog f #[v,u] w (GQC (x / y) 0 w)) (h0:∀ (v u:Value) (x y:Rat) (w:World),RQ w v x->RQ w u y->rsz x<=K->rsz y<=K->y=0->Calls Tryz.prog f #[v,u] w (c0E c w)):aW Tryz.prog f (a5N K c):=by
 intro F w vs x hF hvs hp
 obtain⟨v,vs',rfl,h1,u,vs'',rfl,h2,h3⟩:=hvs
 have h3:vs''=[]:=h3
 subst h3
 by_cases hy:(show Rat from x.2.1)=0
 ·refine(h0 v u x.1 x.2.1 w (wR h1) (wR h2) hp.1 hp.2 hy).mono ?_
  rintro e w' ⟨rfl,hb⟩
  refine⟨_,rfl,?_,hb⟩
  rw[show (a5N K c).fn x=(bU,c,()) from ig hy]
  exact⟨[_,_],rfl,_,_,rfl,c0y,_,_,rfl,a3Q _,rfl⟩
 ·refine(h v u x.1 x.2.1 w (wR h1) (wR h2) hp.1 hp.2 hy).mono ?_
  rintro e w' ⟨r,rfl,hr,hb⟩
  refine⟨_,rfl,?_,hb⟩
  rw[show (a5N K c).fn x=(fD ((show Rat from x.1) / (show Rat from x.2.1)),(0:Int),()) from iq hy]
  exact⟨[_,_],rfl,_,_,rfl,c0x hr,_,_,rfl,a3Q _,rfl⟩
abbrev s4 (x:Rat):Prop:=rsz x<=400000000
abbrev s44 (x y:Rat):Prop:=rsz x<=400000000/\rsz y<=400000000
theorem RU {α:Type} {p:α->Bool} {xs:List α} {i:Nat} {d:α} (hi:i<xs.length):(xs.take (i+1)).all p=((xs.take i).all p&&p (xs.getD i d)):=by
 rw[Di,List.all_append,bf,bn hi]
 simp
abbrev s19 (x y:Rat):Prop:=rsz x<=190000000/\rsz y<=190000000
theorem b5M:aW Tryz.prog 98 (cVal 1000000000):=(a5O fun v ok q w h hn=>JL v ok q w h hn)
theorem a7v:aW Tryz.prog 80 (cIQ iW (fun i=>(i:Rat))):=(a9i fun x w h=>WL x w h.1 h.2)
theorem b5N:aW Tryz.prog 115 (cQ2 s44 (·+·)):=(MN fun v u x y w a b h=>a8W v u x y w a b h.1 h.2)
theorem b2N:aW Tryz.prog 149 (cQ2 s44 (·*·)):=(MN fun v u x y w a b h=>b0U v u x y w a b h.1 h.2)
theorem ZX:aW Tryz.prog 70 (cQI (fun x=>rsz x<=1000000000) (fun x=>sgn x.num)):=(a9j fun v x w h hl=>a8E v x w h hl)
theorem c2R:aW Tryz.prog 173 (a5N 400000000 14):=(a9g (fun v u x y w a b h1 h2 hy=>b3n v u x y w a b h1 h2 hy) (fun v u x y w a b l1 l2 hy=>a4m v u true true x y w a.raw b.raw (a.qn l1) (b.qn l2) hy))
theorem b5O:aW Tryz.prog 145 (cQ2 s44 (·-·)):=(MN fun v u x y w a b h=>b2r v u x y w a b h.1 h.2)
theorem c2T:aW Tryz.prog 89 (c1o s44 MO):=(b2Y fun v u x y w a b h=>a0v v u x y w a b h.1 h.2)
set_option maxRecDepth 100000
set_option maxHeartbeats 1000000
abbrev LR:Type:=List aF
def tX (q:aF):Prop:=q.n<=1000000000/\q.m<=1000000000
def BA {α:Type} (p:α->Bool) (xs:List α):Int:=if xs.any p then (xs.findIdx p:Nat) else -1
theorem TJ {α:Type} {p:α->Bool} {xs:List α} {i:Nat} {d:α} (hi:i<xs.length) (h0:(xs.take i).any p=false) (h:p (xs.getD i d)=true):BA p xs=(i:Nat):=by
 have h1:xs.getD i d=xs[i]:=by rw[bf,bn hi];rfl
 rw[h1] at h
 have h2:xs.findIdx p=i:=by
  rw[List.findIdx_eq hi]
  refine⟨h,fun j hj=>?_⟩
  have:=yj.mp h0 xs[j] (List.mem_take_iff_getElem.mpr ⟨j,by omega,rfl⟩)
  simpa using this
 unfold BA
 rw[ig (vw.mpr ⟨_,jv hi,h⟩),h2]
theorem a0F {α:Type} {p:α->Bool} {xs:List α} (h:xs.any p=false):BA p xs=-1:=by unfold BA;rw[h];rfl
theorem TK {α:Type} (p:α->Bool) (xs:List α):decide (BA p xs ≥ 0)=xs.any p:=by
 unfold BA;cases h:xs.any p
 ·rfl
 ·simp
theorem mO {α:Type} {p:α->Bool} {xs:List α} {i:Nat} {d:α} (hi:i<xs.length):(xs.take (i+1)).any p=((xs.take i).any p || p (xs.getD i d)):=by
 rw[Di,List.any_append,bf,bn hi]
 simp
theorem dY {α:Type} {p:α->Prop} {xs:List α} (h:∀ x ∈ xs,p x) {i:Nat} (hi:i<xs.length) {d:α}:p (xs.getD i d):=by
 rw[bf,bn hi];exact h _ (jv hi)
theorem aZ {n:Int} (h0:-9223372036854775808<=n) (h1:n<=9223372036854775807):IntKind.wrap .i64 n=n:=by
 unfold IntKind.wrap
 simp only[IntKind.bits,IntKind.signed,Bool.true_and,ay,Nat.reduceSub,Int.reducePow,ge_iff_le]
 split<;>omega
def c3o:Ctr:=⟨[tR],[tB],fun x=>tX x.1,fun x=>(!(show aF from x.1).ok,())⟩
theorem a0n:aW Tryz.prog 163 c3o:=by
 refine lM (nil0.ad b5M) [] Tryz.func163 rfl (by decide) (fun x=>[]) (fun x hp=>?_)
 obtain⟨x,u⟩:=x
 change aF at x
 refine bP (((aF.n x<=1000000000/\aF.m x<=1000000000)/\True)/\True/\(!aF.ok x)=!aF.ok x/\True) (by kernel_rfl) ?_
 exact⟨⟨hp,trivial⟩,trivial,rfl,trivial⟩
def c3F:Ctr:=⟨[.list tR,.clo 163 .unit],[tI],fun x=>(show LR from x.1).length<=1000000/\∀ q ∈ (show LR from x.1),tX q,fun x=>(BA (fun q:aF=>!q.ok) (show LR from x.1),())⟩
theorem b3O:aW Tryz.prog 180 c3F:=by
 refine lM (nil0.ad a0n) [] Tryz.func180 rfl (by decide) (fun x=>[.inv {k:Nat // k<=(show LR from x.1).length/\((show LR from x.1).take k).any (fun q=>!q.ok)=false} (fun k=>[(8,.val tI (k.1:Int))]) (fun k=>[]) (fun k=>(show LR from x.1).length-k.1) ⟨0,by omega,rfl⟩ (fun _=>[])]) (fun x hp=>?_)
 obtain⟨x,c,u⟩:=x
 change List aF at x
 refine bP ((asT Int 0=0/\True)/\∀ (i:{ k:Nat // k<=List.length x/\(List.any (List.take k x) fun(q:aF)=>!aF.ok q)=false }),asT Bool true=true/\ifB (decide (aB (aA i)<aB x.length)) ((0<=aB (aA i)/\aB (aA i)<aB x.length/\tX (List.getD x (aB (aA i)).toNat { ok:=false,x:=0,g:=aC Nat,h:=aC Nat })/\True)/\ifB (!aF.ok (List.getD x (aB (aA i)).toNat { ok:=false,x:=0,g:=aC Nat,h:=aC Nat })) (True/\aB (aA i)=BA (fun(q:aF)=>!aF.ok q) x/\True) (∃ (i':{ k:Nat // k<=List.length x/\(List.any (List.take k x) fun(q:aF)=>!aF.ok q)=false }),List.length x-aA i'<List.length x-aA i/\IntKind.wrap IntKind.i64 (aB (aA i)+1)=aB (aA i')/\True)) (True/\-1=BA (fun(q:aF)=>!aF.ok q) x/\True)) (by kernel_rfl) ?_
 obtain⟨hl,hb⟩:=hp
 have hZ:(⟨false,0,[],[]⟩:aF)=bU:=rfl
 dsimp only[aB,asT,aA,aC] at *
 simp only[hZ,Int.toNat_natCast,aT,ay,au,oh,ny,mg,tu]
 refine fun i=>⟨fun h1=>⟨⟨by omega,h1,dY hb (by omega)⟩,fun h2=>?_,fun h2=>⟨⟨i.1+1,by omega,?_⟩,by simp only;omega,?_⟩⟩,fun h1=>?_⟩
 ·exact(TJ (d:=bU) (by omega) i.2.2 (by rw[h2];rfl)).symm
 ·rw[mO (d:=bU) (by omega),i.2.2,h2];rfl
 ·rw[aZ (by omega) (by omega)];rfl
 ·have h3:=i.2.2
  rw[jd (by omega)] at h3
  exact(a0F h3).symm
def c3s:Ctr:=⟨[.list tR,.clo 163 .unit],[tB],fun x=>(show LR from x.1).length<=1000000/\∀ q ∈ (show LR from x.1),tX q,fun x=>((show LR from x.1).any (fun q:aF=>!q.ok),())⟩
theorem b3f:aW Tryz.prog 162 c3s:=by
 refine lM ((nil0.ad a0n).ad b3O) [] Tryz.func162 rfl (by decide) (fun x=>[]) (fun x hp=>?_)
 obtain⟨x,c,u⟩:=x
 change List aF at x
 refine bP (((List.length x<=1000000/\∀ (q:aF),q ∈ x->tX q)/\True)/\True/\(decide (BA (fun(q:aF)=>!aF.ok q) x ≥ 0)=List.any x fun(q:aF)=>!aF.ok q)/\True) (by kernel_rfl) ?_
 exact⟨⟨hp,trivial⟩,trivial,TK _ _,trivial⟩
def c0O:Ctr:=⟨[.list tR],[tB],fun x=>(show LR from x.1).length<=1000000/\∀ q ∈ (show LR from x.1),tX q,fun x=>(!(show LR from x.1).any (fun q:aF=>!q.ok),())⟩
theorem mY:aW Tryz.prog 134 c0O:=by
 refine lM ((nil0.ad a0n).ad b3f) [] Tryz.func134 rfl (by decide) (fun x=>[]) (fun x hp=>?_)
 obtain⟨x,u⟩:=x
 change List aF at x
 refine bP (((List.length x<=1000000/\∀ (q:aF),q ∈ x->tX q)/\True)/\True/\((!List.any x fun(q:aF)=>!aF.ok q)=!List.any x fun(q:aF)=>!aF.ok q)/\True) (by kernel_rfl) ?_
 exact⟨⟨hp,trivial⟩,trivial,rfl,trivial⟩
abbrev MR:Type:=List (List aF)
abbrev wdM {α:Type} (a:List (List α)):Nat:=(a.getD 0 []).length
def badR (n:Nat) (r:LR):Bool:=!(r.length==n) || r.any (fun q=>!q.ok)
def rY (r:LR):Prop:=r.length<=1000000/\∀ q ∈ r,tX q
theorem a2J (m n:Nat):((m:Int) != (n:Int))=!(m==n):=by
 by_cases h:m=n
 ·subst h;simp
 ·rw[jo.mpr h,uy.mpr (fun h2=>h (by exact_mod_cast h2))];rfl
def c0M:Ctr:=⟨[.list tR,.ref tMR],[tB],fun x=>rY x.1/\0<(show MR from x.2.1).length,fun x=>(badR (wdM (show MR from x.2.1)) x.1,())⟩
theorem RY:aW Tryz.prog 133 c0M:=by
 refine lM (nil0.ad mY) [] Tryz.func133 rfl (by decide) (fun x=>[]) (fun x hp=>?_)
 obtain⟨x,a,u⟩:=x
 change List aF at x
 change List (List aF) at a
 refine bP (let A₁:=(List.getD a 0 (aC aF)).length;let A₀:=(aB x.length != aB A₁);(asT Int 0<=0/\0<aB a.length/\((A₀==false)=true->(A₀==false)=true/\(List.length x<=1000000/\∀ (q:aF),q ∈ x->tX q)/\True)/\((A₀==false)=true->(A₀==false)=true/\True)/\(A₀=false->(A₀==false)=true)/\True)/\True/\(bif aB x.length != aB A₁ then true else !!List.any x fun(q:aF)=>!aF.ok q)=badR (wdM a) x/\True) (by kernel_rfl) ?_
 obtain⟨hs,h0⟩:=hp
 dsimp only[aB,asT,aA,aC] at *
 refine⟨⟨by omega,by omega,fun h=>⟨h,hs,trivial⟩,fun h=>⟨h,trivial⟩,fun h=>by rw[h];rfl,trivial⟩,trivial,?_,trivial⟩
 unfold badR
 rw[Bool.not_not,a2J]
 cases x.length==wdM a<;>rfl
def c3E:Ctr:=⟨[tMR,.clo 133 (.pair (.ref tMR) .unit)],[tI],fun x=>(show MR from x.1).length<=1000000/\(∀ r ∈ (show MR from x.1),rY r)/\0<(show MR from x.2.1.1).length,fun x=>(BA (badR (wdM (show MR from x.2.1.1))) (show MR from x.1),())⟩
theorem b3N:aW Tryz.prog 161 c3E:=by
 refine lM (nil0.ad RY) [] Tryz.func161 rfl (by decide) (fun x=>[.inv {k:Nat // k<=(show MR from x.1).length/\((show MR from x.1).take k).any (badR (wdM (show MR from x.2.1.1)))=false} (fun k=>[(8,.val tI (k.1:Int))]) (fun k=>[]) (fun k=>(show MR from x.1).length-k.1) ⟨0,by omega,rfl⟩ (fun _=>[])]) (fun x hp=>?_)
 obtain⟨x,⟨a,c⟩,u⟩:=x
 change List (List aF) at x
 change List (List aF) at a
 refine bP ((asT Int 0=0/\True)/\∀ (i:{ k:Nat // k<=List.length x/\List.any (List.take k x) (badR (wdM a))=false }),asT Bool true=true/\ifB (decide (aB (aA i)<aB x.length)) ((0<=aB (aA i)/\aB (aA i)<aB x.length/\(rY (List.getD x (aB (aA i)).toNat (aC aF))/\0<List.length a)/\True)/\ifB (badR (wdM a) (List.getD x (aB (aA i)).toNat (aC aF))) (True/\aB (aA i)=BA (badR (wdM a)) x/\True) (∃ (i':{ k:Nat // k<=List.length x/\List.any (List.take k x) (badR (wdM a))=false }),List.length x-aA i'<List.length x-aA i/\IntKind.wrap IntKind.i64 (aB (aA i)+1)=aB (aA i')/\True)) (True/\-1=BA (badR (wdM a)) x/\True)) (by kernel_rfl) ?_
 obtain⟨hl,hb,h0⟩:=hp
 dsimp only[aB,asT,aA,aC] at *
 simp only[Int.toNat_natCast,aT,ay,au,oh,ny]
 refine fun i=>⟨fun h1=>⟨⟨by omega,h1,dY hb (by omega),h0⟩,fun h2=>?_,fun h2=>⟨⟨i.1+1,by omega,?_⟩,by simp only;omega,?_⟩⟩,fun h1=>?_⟩
 ·exact(TJ (d:=[]) (by omega) i.2.2 h2).symm
 ·rw[mO (d:=[]) (by omega),i.2.2,h2];rfl
 ·rw[aZ (by omega) (by omega)];rfl
 ·have h3:=i.2.2
  rw[jd (by omega)] at h3
  exact(a0F h3).symm
def c3r:Ctr:=⟨[tMR,.clo 133 (.pair (.ref tMR) .unit)],[tB],fun x=>(show MR from x.1).length<=1000000/\(∀ r ∈ (show MR from x.1),rY r)/\0<(show MR from x.2.1.1).length,fun x=>((show MR from x.1).any (badR (wdM (show MR from x.2.1.1))),())⟩
theorem b3e:aW Tryz.prog 132 c3r:=by
 refine lM ((nil0.ad RY).ad b3N) [] Tryz.func132 rfl (by decide) (fun x=>[]) (fun x hp=>?_)
 obtain⟨x,⟨a,c⟩,u⟩:=x
 change List (List aF) at x
 change List (List aF) at a
 refine bP (((List.length x<=1000000/\(∀ (r:List aF),r ∈ x->rY r)/\0<List.length a)/\True)/\True/\decide (BA (badR (wdM a)) x ≥ 0)=List.any x (badR (wdM a))/\True) (by kernel_rfl) ?_
 exact⟨⟨hp,trivial⟩,trivial,TK _ _,trivial⟩
def eP (a:MR):Int:=if 1<=a.length/\a.length<=64/\1<=wdM a/\wdM a<=64/\a.any (badR (wdM a))=false then 0 else 1
def iL (a:MR):Prop:=a.length<=1000000/\∀ r ∈ a,rY r
def c3q:Ctr:=⟨[tMR],[tI],fun x=>iL x.1,fun x=>(eP x.1,())⟩
theorem pJ:aW Tryz.prog 88 c3q:=by
 refine lM ((nil0.ad RY).ad b3e) [] Tryz.func88 rfl (by decide) (fun x=>[]) (fun x hp=>?_)
 obtain⟨a,u⟩:=x
 change List (List aF) at a
 refine bP (let A₂:=(aB a.length<1);let bK:=(List.getD a 0 (aC aF)).length;let bZ:=(aB a.length > 64);let A₀:=(bif bif decide A₂ then true else decide bZ then true else decide (aB bK<1));let aQ:=((A₀==false)=true->(A₀==false)=true/\True);let dJ:=((decide A₂==false)=true->(decide A₂==false)=true/\True);let gB:=(bif decide A₂ then true else decide bZ);let A₁:=(gB==false);let dS:=(A₁=true->A₁=true/\True);(dJ/\dJ/\(decide A₂=false->(decide A₂==false)=true)/\(A₁=true->A₁=true/\asT Int 0<=0/\0<aB a.length/\True)/\dS/\dS/\dS/\(gB=false->A₁=true)/\((A₀==false)=true->(A₀==false)=true/\asT Int 0<=0/\0<aB a.length/\True)/\aQ/\aQ/\aQ/\(A₀=false->(A₀==false)=true)/\True)/\ifB (bif bif bif decide A₂ then true else decide bZ then true else decide (aB bK<1) then true else decide (aB bK > 64)) (True/\1=eP a/\True) (((List.length a<=1000000/\(∀ (r:List aF),r ∈ a->rY r)/\0<List.length a)/\True)/\ifB (List.any a (badR (wdM a))) (True/\1=eP a/\True) (True/\0=eP a/\True))) (by kernel_rfl) ?_
 dsimp only[aB,asT,aA,aC] at *
 simp only[Int.toNat_natCast,aT,ay,au,oh,ny]
 have eL:∀ n:Nat,decide ((n:Int)<1)=decide (n<1):=fun n=>Ap.mpr (by omega)
 have eG:∀ n:Nat,decide ((n:Int) > 64)=decide (n > 64):=fun n=>Ap.mpr (by omega)
 rw[eL,eG,eL,eG]
 have g1:decide (a.length<1)=false->0<(a.length:Int):=fun h=>by have:=Ce h;omega
 have g2:eP a=bif (decide (a.length<1) || decide (a.length > 64) || decide ((a.getD 0 []).length<1) || decide ((a.getD 0 []).length > 64) || a.any (badR (wdM a))) then 1 else 0:=by
  unfold eP
  by_cases h1:a.length<1
  ·rw[iq (by omega),pz h1];rfl
  ·by_cases h2:a.length > 64
   ·rw[iq (by omega),pz h2];simp
   ·by_cases h3:(a.getD 0 []).length<1
    ·rw[iq (fun h=>by have:=h.2.2.1;unfold wdM at this;omega),pz h3];simp
    ·by_cases h4:(a.getD 0 []).length > 64
     ·rw[iq (fun h=>by have:=h.2.2.2.1;unfold wdM at this;omega),pz h4];simp
     ·rw[oq h1,oq h2,oq h3,oq h4]
      cases h5:a.any (badR (wdM a))
      ·rw[ig ⟨by omega,by omega,by unfold wdM;omega,by unfold wdM;omega,rfl⟩];rfl
      ·rw[iq (fun h=>Bool.noConfusion h.2.2.2.2)];rfl
 have hl:a.length<=1000000:=hp.1
 have hr:∀ r,r ∈ a->rY r:=hp.2
 rw[g2]
 have g4:decide (a.length<1)=true->(a.length:Int)<1:=fun h=>by have:=ru h;omega
 have g3:(decide (a.length<1)=false->0<a.length):=fun h=>by have:=Ce h;omega
 generalize decide (a.length<1)=b1 at *
 generalize decide (a.length > 64)=b2 at *
 generalize decide ((a.getD 0 []).length<1)=b3 at *
 generalize decide ((a.getD 0 []).length > 64)=b4 at *
 generalize a.any (badR (wdM a))=b5 at *
 clear eL eG g2
 cases b1
 ·have k1:=g1 rfl
  have k3:=g3 rfl
  cases b2<;>cases b3<;>cases b4<;>cases b5<;>simp[k1,k3,hl]<;>exact hr
 ·simp[g4 rfl]
abbrev ML:Type:=List (List (List aF))
theorem a9t (a:MR):eP a=0\/eP a=1:=by unfold eP;split<;>simp
def jG (l:ML):Int:=if l.any (fun a=>eP a != 0) then 1 else 0
def c0Q:Ctr:=⟨[.list tMR],[tI],fun x=>(show ML from x.1).length<=1000000/\∀ a ∈ (show ML from x.1),iL a,fun x=>(jG x.1,())⟩
theorem PI:aW Tryz.prog 109 c0Q:=by
 refine lM (nil0.ad pJ) [] Tryz.func109 rfl (by decide) (fun x=>[.inv {k:Nat // k<=(show ML from x.1).length/\((show ML from x.1).take k).any (fun a=>eP a != 0)=false} (fun k=>[(8,.val tI (k.1:Int))]) (fun k=>[]) (fun k=>(show ML from x.1).length-k.1) ⟨0,by omega,rfl⟩ (fun _=>[])]) (fun x hp=>?_)
 obtain⟨x,u⟩:=x
 change List (List (List aF)) at x
 refine bP ((asT Int 0=0/\True)/\∀ (i:{ k:Nat // k<=List.length x/\(List.any (List.take k x) fun(a:List (List aF))=>eP a != 0)=false }),asT Bool true=true/\ifB (decide (aB (aA i)<aB x.length)) ((0<=aB (aA i)/\aB (aA i)<aB x.length/\True)/\(iL (List.getD x (aB (aA i)).toNat (aC (List aF)))/\True)/\ifB (eP (List.getD x (aB (aA i)).toNat (aC (List aF))) != 0) (True/\eP (List.getD x (aB (aA i)).toNat (aC (List aF)))=jG x/\True) (∃ (i':{ k:Nat // k<=List.length x/\(List.any (List.take k x) fun(a:List (List aF))=>eP a != 0)=false }),List.length x-aA i'<List.length x-aA i/\IntKind.wrap IntKind.i64 (aB (aA i)+1)=aB (aA i')/\True)) (True/\0=jG x/\True)) (by kernel_rfl) ?_
 obtain⟨hl,hb⟩:=hp
 dsimp only[aB,asT,aA,aC] at *
 simp only[Int.toNat_natCast,aT,ay,au,oh,ny]
 refine fun i=>⟨fun h1=>⟨⟨by omega,h1⟩,dY hb (by omega),fun h2=>?_,fun h2=>⟨⟨i.1+1,by omega,?_⟩,by simp only;omega,?_⟩⟩,fun h1=>?_⟩
 ·have hi:i.1<x.length:=by omega
  have h3:x.any (fun a=>eP a != 0)=true:=vw.mpr ⟨x.getD i.1 [],by rw[bf,bn hi];exact jv hi,h2⟩
  unfold jG;rw[h3]
  rcases a9t (x.getD i.1 []) with h|h
  ·rw[h] at h2;exact absurd h2 (by decide)
  ·rw[h];rfl
 ·rw[mO (d:=[]) (by omega),i.2.2,h2];rfl
 ·rw[aZ (by omega) (by omega)];rfl
 ·have h3:=i.2.2
  rw[jd (by omega)] at h3
  unfold jG;rw[h3];rfl
abbrev MQ:Type:=List (List Rat)
abbrev ent (a:MQ) (i j:Nat):Rat:=(a.getD i []).getD j 0
def tab (R C:Nat) (f:Nat->Nat->Rat):MQ:=(List.range R).map fun i=>(List.range C).map fun j=>f i j
def aY (R C:Nat) (f:Nat->Nat->Rat):MR:=(List.range R).map fun i=>(List.range C).map fun j=>fD (f i j)
def isM (a:MQ) (R C:Nat):Prop:=a.length=R/\(∀ r ∈ a,r.length=C)/\1<=R/\R<=64/\1<=C/\C<=64
theorem aS (R C:Nat) (f:Nat->Nat->Rat):(aY R C f).length=R:=by simp[aY]
theorem b0L {α:Type} (X:List (List α)) (Z:List α) {k:Nat} (hk:k<X.length):List.map (fun i=>(X++[Z]).getD i []) ((List.range X.length).set k X.length)=X.set k Z:=by
 apply Bh
 ·simp
 ·intro i h1 h2
  have hi:i<X.length:=by simpa using h2
  rw[List.getElem_map,List.getElem_set,List.getElem_set]
  split
  ·simp
  ·rw[List.getElem_range,bf,Ai hi,bn hi];rfl
theorem b3W (n k:Nat):((List.range n).set k n).Nodup:=by
 refine List.nodup_iff_pairwise_ne.mpr (List.pairwise_iff_getElem.mpr fun i j hi hj h=>?_)
 have h1:i<n:=by simpa using hi
 have h2:j<n:=by simpa using hj
 rw[List.getElem_set,List.getElem_set]
 split<;>split<;>simp<;>omega
theorem b0M {α:Type} {H:List (List α)} {k R:Nat} (hH:H.length=k) (hk:k<R) (Z:List α):(H++List.replicate (R-k) []).set k Z=H++[Z]++List.replicate (R-k-1) []:=by
 obtain⟨d,rfl⟩:∃ d,R=k+d+1:=⟨R-k-1,by omega⟩
 subst hH
 rw[show H.length+d+1-H.length=d+1 by omega,show d+1-1=d by omega,List.set_append_right _ _ (aj _),Nat.sub_self,List.replicate_succ,List.set_cons_zero]
 simp
theorem a6A {α:Type} {H T:List (List α)} {k:Nat} (hH:H.length=k) (Z:List α):rowAt (H++[Z]++T) k=Z:=by
 subst hH;unfold rowAt;simp
theorem b0O {α:Type} {H T:List (List α)} {k:Nat} (hH:H.length=k) (Z Y:List α):(H++[Z]++T).set k Y=H++[Y]++T:=by
 subst hH;simp
theorem b0N {α:Type} (g:Nat->α) (z:α) {q C:Nat} (h:q<C):(List.map g (List.range q)++List.replicate (C-q) z).set q (g q)=List.map g (List.range (q+1))++List.replicate (C-(q+1)) z:=by
 obtain⟨d,rfl⟩:∃ d,C=q+d+1:=⟨C-q-1,by omega⟩
 rw[show q+d+1-q=d+1 by omega,show q+d+1-(q+1)=d by omega,List.set_append_right _ _ (by simp),Bv]
 simp[List.replicate_succ]
theorem a8K (k C:Nat) (f:Nat->Nat->Rat):aY (k+1) C f=aY k C f++[List.map (fun j=>fD (f k j)) (List.range C)]:=by unfold aY;rw[Bv];simp
theorem lX {α:Type} {p:α->Prop}:∀ {xs:List α},eH p xs↔∀ x ∈ xs,p x
 | []=>by simp[eH]
 | x::xs=>by simp[eH,lX (xs:=xs)]
theorem uM (R C:Nat) (f:Nat->Nat->Rat):eH (fun x=>bY [eH (fun x=>bY [aF.ok x=true]) x]) (aY R C f):=by
 refine lX.mpr fun r hr=>⟨lX.mpr fun q hq=>⟨?_,trivial⟩,trivial⟩
 obtain⟨i,_,rfl⟩:=ug.mp hr
 obtain⟨j,_,rfl⟩:=ug.mp hq
 rfl
theorem zX (R C:Nat) (f:Nat->Nat->Rat):List.map (fun xs=>List.map (fun x=>aF.x x) xs) (aY R C f)=tab R C f:=by
 unfold aY tab;simp[fD,Function.comp_def]
end Go.Proofs.YtgplhbhfdgempaaGreat
