/-
  Lemmas for the theorem vtransforms_holds, part 22 of 39.
-/
import Derived.Test.YtgplhbhfdgempaaGreatTr21
namespace Go.Proofs.YtgplhbhfdgempaaGreat
open Go Go.RowKit
theorem Ba:type_of% @List.take_add_one:=@List.take_add_one
theorem Ag:type_of% @List.any_eq_false:=@List.any_eq_false
theorem au:type_of% @decide_eq_false_iff_not:=@decide_eq_false_iff_not
theorem ni:type_of% @true_and:=@true_and
theorem uj:type_of% @Bool.not_eq_false':=@Bool.not_eq_false'
theorem jv:type_of% @beq_eq_false_iff_ne:=@beq_eq_false_iff_ne
theorem Ai:type_of% @of_decide_eq_false:=@of_decide_eq_false
theorem pz:type_of% @decide_eq_true:=@decide_eq_true
theorem ql:type_of% @of_decide_eq_true:=@of_decide_eq_true
set_option maxRecDepth 100000
set_option maxHeartbeats 4000000
set_option linter.unusedSimpArgs false
set_option linter.unusedVariables false
def LW (x y:Rat):Int:=if x<y then -1 else if y<x then 1 else 0
theorem b2C (x y:Rat):dV (x.num*y.den) (y.num*x.den)=LW x y:=by
 unfold dV LW
 simp only[a4B]
theorem a3O (v u:Value) (o1 o2:Bool) (x y:Rat) (w:World) (h1:iD w v o1 x) (h2:iD w u o2 y) (n1:Qn v 400000000) (n2:Qn u 400000000) (hy:y≠0) :
  Calls Tryz.prog 173 #[v,u] w (GQC (x / y) 0 w):=by
 obtain⟨b,p,n,c,d,o,m,e,rfl⟩:=h1.form
 obtain⟨f,i,j,k,g,r,t,a,rfl⟩:=h2.form
 have hl:=h1.kS n1 (by omega)
 have hl2:=h2.kS n2 (by omega)
 have m1:=n1.up (show 400000000<=1000000000 by omega)
 have m2:=n2.up (show 400000000<=1000000000 by omega)
 have b1:=fA x
 have b2:=eF x
 have b3:=fA y
 have b4:=eF y
 have c1:=eH x.num y.den
 have c4:=eH x.den y.num
 have HX:=bn (a0J x y)
 have hn0:y.num≠0:=fun h=>hy ((zF y).1 h)
 have hd0:(x.den:Int)*y.num≠0:=fun h=>by
  have:=x.den_nz
  rcases Int.mul_eq_zero.1 h with h|h<;>omega
 have c1K:(sgn y.num==0)=false:=by have:=b1y hn0;simpa using this
 clear hy hn0
 have bZ:Below w.heap.size w w:=dn _ _
 go_enter Tryz.func173,Tryz.ntmps173
 go_wp2_with fail
 obtain⟨hA1,y0,z0,j1⟩:=bx3 w rfl [.bool b,.slice p n c,.bool d,.slice o m e] 64 [.bool f,.slice i j k,.bool g,.slice r t a] 64 [.bool false,.slice none 0 0,.bool false,.slice none 0 0] 64
 obtain⟨f2,t2,j2,x2,l2,z2,r2,c3⟩:=y0.drew.cf4
 obtain⟨e3,q3,h3,s3,k3,u3,n3,x3⟩:=z0.drew.cf4
 have tk1:True:=trivial
 have tk2:True:=trivial
 go_region_with
  (first
   | (((have:=tk1);clear tk1;have k1:=(h1.below hA1).drew;go_at_call 119;(with_reducible refine(jD _ _ (x) _ k1 m1).mono ?_);rintro e w1 ⟨v1,rfl,hi1,hb1⟩;obtain⟨g1,p1,n1,c1,h1,o1,m1,e1,rfl⟩:=hi1.form;have dW:=(z0.drew.to hb1);obtain⟨f3,r3,i3,t3,l3,v3,o3,y3⟩:=dW.cf4;have dP:=(y0.drew.to hb1);obtain⟨i2,u2,k2,y2,q2,a3,s2,d3⟩:=dP.cf4))
   | (((have:=tk2);clear tk2;have a0l:=((h2.below hA1).drew.below hb1);have l1:=a0l;go_at_call 119;(with_reducible refine(jD _ _ (y) _ l1 m2).mono ?_);rintro e w2 ⟨v2,rfl,hi2,hb2⟩;obtain⟨g2,p2,n2,c2,h2,o2,m2,e2,rfl⟩:=hi2.form;have dL:=(dP.to hb2);obtain⟨a0,e0,b0,f0,c0,g0,d0,h0⟩:=dL.cf4;have dM:=(dW.to hb2);obtain⟨i0,m0,j0,n0,k0,o0,l0,p0⟩:=dM.cf4)))
 all_goals
  obtain⟨g3,j3,m3,p3⟩:=((dM.fD (b:=w.heap.size) (by omega) (.bool g1) (.slice p1 n1 c1) (.bool h1) (.slice o1 m1 e1)).vH (.bool g2) (.slice p2 n2 c2) (.bool h2) (.slice o2 m2 e2)).cs4
  go_wp2_with fail
  have q1:=((hi2.bG dL rfl rfl rfl rfl (.bool g1) (.slice p1 n1 c1) (.bool h1) (.slice o1 m1 e1)).bG (dM.fD (b:=w.heap.size) (by omega) (.bool g1) (.slice p1 n1 c1) (.bool h1) (.slice o1 m1 e1)) rfl rfl rfl rfl (.bool g2) (.slice p2 n2 c2) (.bool h2) (.slice o2 m2 e2)).num.raw
  (with_reducible refine(rM _ (((y)).num) _ q1).mono ?_)
  rintro e w3 ⟨rfl,hb3⟩
  go_wp2_with fail
  have lH:=(((dL.vH (.bool g1) (.slice p1 n1 c1) (.bool h1) (.slice o1 m1 e1)).fD (b:=w.heap.size+1) (by omega) (.bool g2) (.slice p2 n2 c2) (.bool h2) (.slice o2 m2 e2)).to hb3)
  have pJ:=(((dM.fD (b:=w.heap.size) (by omega) (.bool g1) (.slice p1 n1 c1) (.bool h1) (.slice o1 m1 e1)).vH (.bool g2) (.slice p2 n2 c2) (.bool h2) (.slice o2 m2 e2)).to hb3)
  have KT:=(((((j1.drew.to hb1).to hb2).fD (b:=w.heap.size) (by omega) (.bool g1) (.slice p1 n1 c1) (.bool h1) (.slice o1 m1 e1)).fD (b:=w.heap.size+1) (by omega) (.bool g2) (.slice p2 n2 c2) (.bool h2) (.slice o2 m2 e2)).to hb3)
  have c2N:=(aK.mk (lH.drew).bs4 (aK.mk (pJ.drew).bs4 (BN.of (KT.drew))))
  have f1:dQ (w.heap.size+1+1) (aK (BS4 w.heap.size (.bool g1) (.slice p1 n1 c1) (.bool h1) (.slice o1 m1 e1)) (aK (BS4 (w.heap.size+1) (.bool g2) (.slice p2 n2 c2) (.bool h2) (.slice o2 m2 e2)) (BN (w.heap.size+1+1)))):=(aK.hc (BS4.hc (by omega)) (aK.hc (BS4.hc (by omega)) BN.hc))
  have tk3:True:=trivial
  have tk4:True:=trivial
  have tk5:True:=trivial
  go_region_held3 (aK (BS4 w.heap.size (.bool g1) (.slice p1 n1 c1) (.bool h1) (.slice o1 m1 e1)) (aK (BS4 (w.heap.size+1) (.bool g2) (.slice p2 n2 c2) (.bool h2) (.slice o2 m2 e2)) (BN (w.heap.size+1+1)))) (first|with_reducible exact c2N|with_reducible exact iC.go (aK.hk BS4.hk (aK.hk BS4.hk BN.hk)) (by assumption) (by assumption)|with_reducible exact dQ.go4 f1 (by assumption)|(simp;done))
   (first
    | (((have:=tk3);clear tk3;have a1:=((((hi1.below hb2).bG dL rfl rfl rfl rfl (.bool g1) (.slice p1 n1 c1) (.bool h1) (.slice o1 m1 e1)).bG (dM.fD (b:=w.heap.size) (by omega) (.bool g1) (.slice p1 n1 c1) (.bool h1) (.slice o1 m1 e1)) rfl rfl rfl rfl (.bool g2) (.slice p2 n2 c2) (.bool h2) (.slice o2 m2 e2)).below hb3);have r1:=a1.drew.num.raw;have d1:=(((hi2.bG dL rfl rfl rfl rfl (.bool g1) (.slice p1 n1 c1) (.bool h1) (.slice o1 m1 e1)).bG (dM.fD (b:=w.heap.size) (by omega) (.bool g1) (.slice p1 n1 c1) (.bool h1) (.slice o1 m1 e1)) rfl rfl rfl rfl (.bool g2) (.slice p2 n2 c2) (.bool h2) (.slice o2 m2 e2)).below hb3);have s1:=d1.drew.den.raw;go_at_call 136;(with_reducible refine(mul_any _ _ (((x)).num) ((((y)).den:Int)) _ r1 s1 (by omega) (by omega)).mono ?_);rintro e w4 ⟨v4,rfl,hi4,hb4⟩;obtain⟨g4,p4,n4,c4,rfl⟩:=hi4.form))
    | (((have:=tk4);clear tk4;have z1:=(a1.drew.below hb4);have t1:=z1.den.raw;have a2:=(d1.drew.below hb4);have u1:=a2.num.raw;go_at_call 136;(with_reducible refine(mul_any _ _ ((((x)).den:Int)) (((y)).num) _ t1 u1 (by omega) (by omega)).mono ?_);rintro e w5 ⟨v5,rfl,hi5,hb5⟩;obtain⟨g5,p5,n5,c5,rfl⟩:=hi5.form))
    | (((have:=tk5);clear tk5;have d2:=(hi4.below hb5);have x1:=d2;have y1:=hi5;go_at_call 151;(with_reducible refine(zG _ _ ((((x)).num)*((((y)).den:Int))) (((((x)).den:Int))*(((y)).num)) _ x1 y1 (by omega) (by omega) hd0).mono ?_);rintro e w6 ⟨v6,rfl,hi6,hb6⟩;obtain⟨g6,p6,n6,c6,h6,o6,m6,e6,rfl⟩:=hi6.form;have sH:=(((KT.drew.to hb4).to hb5).to hb6);obtain⟨q0,u0,r0,v0,s0,w0,t0,x0⟩:=sH.cf4)))
  have i1:=(Below.tr (Below.tr (Below.tr (Below.tr (Below.bG (Below.bG (Below.tr (Below.tr (Below.tr bZ hA1).drew hb1) hb2) (b:=w.heap.size) (by omega) (.bool g1) (.slice p1 n1 c1) (.bool h1) (.slice o1 m1 e1)) (b:=w.heap.size+1) (by omega) (.bool g2) (.slice p2 n2 c2) (.bool h2) (.slice o2 m2 e2)) hb3).drew hb4) hb5) hb6)
  go_wp2_with fail
  exact jh (v:=.tuple #[.agg #[.bool g6,.slice p6 n6 c6,.bool h6,.slice o6 m6 e6],.int .i64 0]) (by simp[results,Tryz.results173,go_sem,a0,e0,b0,f0,c0,g0,d0,h0,i0,m0,j0,n0,k0,o0,l0,p0,q0,u0,r0,v0,s0,w0,t0,x0]) rfl ⟨_,rfl,by rw[<-HX.out];exact(hi6.bG sH rfl rfl rfl rfl (.bool g6) (.slice p6 n6 c6) (.bool h6) (.slice o6 m6 e6)),(Below.bG i1 (b:=w.heap.size+1+1) (by omega) (.bool g6) (.slice p6 n6 c6) (.bool h6) (.slice o6 m6 e6))⟩
theorem a3N (v u:Value) (o1 o2:Bool) (x y:Rat) (w:World) (h1:iD w v o1 x) (h2:iD w u o2 y) (n1:Qn v 400000000) (n2:Qn u 400000000) (hy:y=0) :
  Calls Tryz.prog 173 #[v,u] w (c0i 14 w):=by
 obtain⟨b,p,n,c,d,o,m,e,rfl⟩:=h1.form
 obtain⟨f,i,j,k,g,r,t,a,rfl⟩:=h2.form
 have hl:=h1.kS n1 (by omega)
 have hl2:=h2.kS n2 (by omega)
 have m1:=n1.up (show 400000000<=1000000000 by omega)
 have m2:=n2.up (show 400000000<=1000000000 by omega)
 have b1:=fA x
 have b2:=eF x
 have b3:=fA y
 have b4:=eF y
 have c1K:(sgn y.num==0)=true:=by rw[hy];rfl
 clear hy
 have bZ:Below w.heap.size w w:=dn _ _
 go_enter Tryz.func173,Tryz.ntmps173
 go_wp2_with fail
 obtain⟨hA1,y0,z0,d1⟩:=bx3 w rfl [.bool b,.slice p n c,.bool d,.slice o m e] 64 [.bool f,.slice i j k,.bool g,.slice r t a] 64 [.bool false,.slice none 0 0,.bool false,.slice none 0 0] 64
 obtain⟨k1,y1,q1,a2,s1,f2,u1,j2⟩:=y0.drew.cf4
 obtain⟨l2,e3,s2,g3,x2,i3,a3,k3⟩:=z0.drew.cf4
 have tk1:True:=trivial
 have tk2:True:=trivial
 go_region_with
  (first
   | (((have:=tk1);clear tk1;have f1:=(h1.below hA1).drew;go_at_call 119;(with_reducible refine(jD _ _ (x) _ f1 m1).mono ?_);rintro e w1 ⟨v1,rfl,hi1,hb1⟩;obtain⟨g1,p1,n1,c1,h1,o1,m1,e1,rfl⟩:=hi1.form;have dW:=(z0.drew.to hb1);obtain⟨q2,f3,t2,h3,y2,j3,c3,l3⟩:=dW.cf4;have dP:=(y0.drew.to hb1);obtain⟨l1,z1,r1,d2,t1,i2,x1,k2⟩:=dP.cf4))
   | (((have:=tk2);clear tk2;have a0l:=((h2.below hA1).drew.below hb1);have i1:=a0l;go_at_call 119;(with_reducible refine(jD _ _ (y) _ i1 m2).mono ?_);rintro e w2 ⟨v2,rfl,hi2,hb2⟩;obtain⟨g2,p2,n2,c2,h2,o2,m2,e2,rfl⟩:=hi2.form;have dL:=(dP.to hb2);obtain⟨a0,e0,b0,f0,c0,g0,d0,h0⟩:=dL.cf4;have dM:=(dW.to hb2);obtain⟨i0,m0,j0,n0,k0,o0,l0,p0⟩:=dM.cf4)))
 all_goals
  obtain⟨r2,u2,z2,d3⟩:=((dM.fD (b:=w.heap.size) (by omega) (.bool g1) (.slice p1 n1 c1) (.bool h1) (.slice o1 m1 e1)).vH (.bool g2) (.slice p2 n2 c2) (.bool h2) (.slice o2 m2 e2)).cs4
  go_wp2_with fail
  have j1:=((hi2.bG dL rfl rfl rfl rfl (.bool g1) (.slice p1 n1 c1) (.bool h1) (.slice o1 m1 e1)).bG (dM.fD (b:=w.heap.size) (by omega) (.bool g1) (.slice p1 n1 c1) (.bool h1) (.slice o1 m1 e1)) rfl rfl rfl rfl (.bool g2) (.slice p2 n2 c2) (.bool h2) (.slice o2 m2 e2)).num.raw
  (with_reducible refine(rM _ (((y)).num) _ j1).mono ?_)
  rintro e w3 ⟨rfl,hb3⟩
  have KT:=(((((d1.drew.to hb1).to hb2).fD (b:=w.heap.size) (by omega) (.bool g1) (.slice p1 n1 c1) (.bool h1) (.slice o1 m1 e1)).fD (b:=w.heap.size+1) (by omega) (.bool g2) (.slice p2 n2 c2) (.bool h2) (.slice o2 m2 e2)).to hb3)
  obtain⟨q0,u0,r0,v0,s0,w0,t0,x0⟩:=KT.cf4
  have a1:=(Below.tr (Below.bG (Below.bG (Below.tr (Below.tr (Below.tr bZ hA1).drew hb1) hb2) (b:=w.heap.size) (by omega) (.bool g1) (.slice p1 n1 c1) (.bool h1) (.slice o1 m1 e1)) (b:=w.heap.size+1) (by omega) (.bool g2) (.slice p2 n2 c2) (.bool h2) (.slice o2 m2 e2)) hb3)
  go_wp2_with fail
  exact jh (v:=.tuple #[.agg #[.bool false,.slice none 0 0,.bool false,.slice none 0 0],.int .i64 14]) (by simp[results,Tryz.results173,go_sem,a0,e0,b0,f0,c0,g0,d0,h0,i0,m0,j0,n0,k0,o0,l0,p0,q0,u0,r0,v0,s0,w0,t0,x0]) rfl ⟨rfl,(Below.bG a1 (b:=w.heap.size+1+1) (by omega) (.bool false) (.slice none 0 0) (.bool false) (.slice none 0 0))⟩
theorem a0c (v u:Value) (o1 o2:Bool) (x y:Rat) (w:World) (h1:iD w v o1 x) (h2:iD w u o2 y) (n1:Qn v 400000000) (n2:Qn u 400000000) :
  Calls Tryz.prog 89 #[v,u] w (fun e w'=>e=.returned (.int .i64 (LW x y))/\Below w.heap.size w w'):=by
 obtain⟨b,p,n,c,d,o,m,e,rfl⟩:=h1.form
 obtain⟨f,i,j,k,g,r,t,a,rfl⟩:=h2.form
 have hl:=h1.kS n1 (by omega)
 have hl2:=h2.kS n2 (by omega)
 have m1:=n1.up (show 400000000<=1000000000 by omega)
 have m2:=n2.up (show 400000000<=1000000000 by omega)
 have b1:=fA x
 have b2:=eF x
 have b3:=fA y
 have b4:=eF y
 have c1:=eH x.num y.den
 have c2:=eH y.num x.den
 have bZ:Below w.heap.size w w:=dn _ _
 go_enter Tryz.func89,Tryz.ntmps89
 go_wp2_with fail
 obtain⟨hA1,a0,b0⟩:=bx2 w rfl [.bool b,.slice p n c,.bool d,.slice o m e] 64 [.bool f,.slice i j k,.bool g,.slice r t a] 64
 obtain⟨p0,d1,s0,j1,v0,q1,y0,t1⟩:=a0.drew.cf4
 obtain⟨y1,t2,d2,y2,j2,d3,q2,h3⟩:=b0.drew.cf4
 have tk1:True:=trivial
 have tk2:True:=trivial
 go_region_with
  (first
   | (((have:=tk1);clear tk1;have e0:=(h1.below hA1).drew;go_at_call 119;(with_reducible refine(jD _ _ (x) _ e0 m1).mono ?_);rintro e w1 ⟨v1,rfl,hi1,hb1⟩;obtain⟨g1,p1,n1,c1,h1,o1,m1,e1,rfl⟩:=hi1.form;have dW:=(b0.drew.to hb1);obtain⟨z1,u2,f2,z2,k2,e3,r2,i3⟩:=dW.cf4;have dP:=(a0.drew.to hb1);obtain⟨q0,f1,t0,k1,w0,r1,z0,u1⟩:=dP.cf4))
   | (((have:=tk2);clear tk2;have a0l:=((h2.below hA1).drew.below hb1);have f0:=a0l;go_at_call 119;(with_reducible refine(jD _ _ (y) _ f0 m2).mono ?_);rintro e w2 ⟨v2,rfl,hi2,hb2⟩;obtain⟨g2,p2,n2,c2,h2,o2,m2,e2,rfl⟩:=hi2.form;have dL:=(dP.to hb2);obtain⟨r0,i1,u0,l1,x0,s1,a1,x1⟩:=dL.cf4;have dM:=(dW.to hb2);obtain⟨a2,x2,i2,a3,l2,f3,s2,j3⟩:=dM.cf4)))
 all_goals
  go_wp2_with fail
  have ZL:=(aK.mk (((dL.vH (.bool g1) (.slice p1 n1 c1) (.bool h1) (.slice o1 m1 e1)).fD (b:=w.heap.size+1) (by omega) (.bool g2) (.slice p2 n2 c2) (.bool h2) (.slice o2 m2 e2)).drew).bs4 (((dM.fD (b:=w.heap.size) (by omega) (.bool g1) (.slice p1 n1 c1) (.bool h1) (.slice o1 m1 e1)).vH (.bool g2) (.slice p2 n2 c2) (.bool h2) (.slice o2 m2 e2)).drew).bs4)
  have tk3:True:=trivial
  have tk4:True:=trivial
  have tk5:True:=trivial
  go_region_held3 (aK (BS4 w.heap.size (.bool g1) (.slice p1 n1 c1) (.bool h1) (.slice o1 m1 e1)) (BS4 (w.heap.size+1) (.bool g2) (.slice p2 n2 c2) (.bool h2) (.slice o2 m2 e2))) (first|with_reducible exact ZL|with_reducible exact iC.go (aK.hk BS4.hk BS4.hk) (by assumption) (by assumption)|(simp;done))
   (first
    | (((have:=tk3);clear tk3;have c0:=(hi1.below hb2);have g0:=((c0.bG dL rfl rfl rfl rfl (.bool g1) (.slice p1 n1 c1) (.bool h1) (.slice o1 m1 e1)).bG (dM.fD (b:=w.heap.size) (by omega) (.bool g1) (.slice p1 n1 c1) (.bool h1) (.slice o1 m1 e1)) rfl rfl rfl rfl (.bool g2) (.slice p2 n2 c2) (.bool h2) (.slice o2 m2 e2)).drew.num.raw;have h0:=((hi2.bG dL rfl rfl rfl rfl (.bool g1) (.slice p1 n1 c1) (.bool h1) (.slice o1 m1 e1)).bG (dM.fD (b:=w.heap.size) (by omega) (.bool g1) (.slice p1 n1 c1) (.bool h1) (.slice o1 m1 e1)) rfl rfl rfl rfl (.bool g2) (.slice p2 n2 c2) (.bool h2) (.slice o2 m2 e2)).drew.den.raw;go_at_call 136;(with_reducible refine(mul_any _ _ (((x)).num) ((((y)).den:Int)) _ g0 h0 (by omega) (by omega)).mono ?_);rintro e w3 ⟨v3,rfl,hi3,hb3⟩;obtain⟨g3,p3,n3,c3,rfl⟩:=hi3.form))
    | (((have:=tk4);clear tk4;have n0:=(((hi2.bG dL rfl rfl rfl rfl (.bool g1) (.slice p1 n1 c1) (.bool h1) (.slice o1 m1 e1)).bG (dM.fD (b:=w.heap.size) (by omega) (.bool g1) (.slice p1 n1 c1) (.bool h1) (.slice o1 m1 e1)) rfl rfl rfl rfl (.bool g2) (.slice p2 n2 c2) (.bool h2) (.slice o2 m2 e2)).drew.below hb3);have i0:=n0.num.raw;have m0:=(((c0.bG dL rfl rfl rfl rfl (.bool g1) (.slice p1 n1 c1) (.bool h1) (.slice o1 m1 e1)).bG (dM.fD (b:=w.heap.size) (by omega) (.bool g1) (.slice p1 n1 c1) (.bool h1) (.slice o1 m1 e1)) rfl rfl rfl rfl (.bool g2) (.slice p2 n2 c2) (.bool h2) (.slice o2 m2 e2)).drew.below hb3);have j0:=m0.den.raw;go_at_call 136;(with_reducible refine(mul_any _ _ (((y)).num) ((((x)).den:Int)) _ i0 j0 (by omega) (by omega)).mono ?_);rintro e w4 ⟨v4,rfl,hi4,hb4⟩;obtain⟨g4,p4,n4,c4,rfl⟩:=hi4.form))
    | (((have:=tk5);clear tk5;have o0:=(hi3.below hb4);have k0:=o0.raw;have l0:=hi4.raw;go_at_call 135;(with_reducible refine(JK _ _ ((((x)).num)*((((y)).den:Int))) ((((y)).num)*((((x)).den:Int))) _ k0 l0).mono ?_);rintro e w5 ⟨rfl,hb5⟩)))
  have d0:=(Below.tr (Below.tr (Below.tr (Below.bG (Below.bG (Below.tr (Below.tr (Below.tr bZ hA1).drew hb1) hb2) (b:=w.heap.size) (by omega) (.bool g1) (.slice p1 n1 c1) (.bool h1) (.slice o1 m1 e1)) (b:=w.heap.size+1) (by omega) (.bool g2) (.slice p2 n2 c2) (.bool h2) (.slice o2 m2 e2)).drew hb3) hb4) hb5)
  go_wp2_with fail
  go_ret
  exact⟨iR (b2C x y),d0⟩
theorem a0b (v u:Value) (x y:Rat) (w:World) (h1:RQ w v x) (h2:RQ w u y) (l1:rsz x<=400000000) (l2:rsz y<=400000000) :
 Calls Tryz.prog 89 #[v,u] w (fun e w'=>e=.returned (.int .i64 (LW x y))/\Below w.heap.size w w'):=a0c v u true true x y w h1.raw h2.raw (h1.qn l1) (h2.qn l2)
theorem b2L (v u:Value) (x y:Rat) (w:World) (h1:RQ w v x) (h2:RQ w u y) (l1:rsz x<=400000000) (l2:rsz y<=400000000) (hy:y≠0) :
 Calls Tryz.prog 173 #[v,u] w (GQC (x / y) 0 w):=a3O v u true true x y w h1.raw h2.raw (h1.qn l1) (h2.qn l2) hy
theorem b1R (v u:Value) (o1 o2:Bool) (x y:Rat) (w:World) (fa:iD w v o1 x) (fb:iD w u o2 y) (qa:Qn v 400000000) (qb:Qn u 400000000) :
  Calls Tryz.prog 145 #[v,u] w (GQ (x-y) w):=by
 obtain⟨b,p,n,c,d,o,m,e,rfl⟩:=fa.form
 obtain⟨f,i,j,k,g,r,t,a,rfl⟩:=fb.form
 have hl:=fa.kS qa (by omega)
 have hl2:=fb.kS qb (by omega)
 have ma:=qa.up (show 400000000<=1000000000 by omega)
 have mb:=qb.up (show 400000000<=1000000000 by omega)
 have b1:=fA x
 have b2:=eF x
 have b3:=fA y
 have b4:=eF y
 have hc5:rsz (-y)<=400000000:=by rw[a0Q];exact hl2
 have bZ:Below w.heap.size w w:=dn _ _
 go_enter Tryz.func145,Tryz.ntmps145
 go_wp2_with fail
 obtain⟨hA1,l0,m0,i0⟩:=bx3 w rfl [.bool b,.slice p n c,.bool d,.slice o m e] 64 [.bool f,.slice i j k,.bool g,.slice r t a] 64 [.bool false,.slice none 0 0,.bool false,.slice none 0 0] 64
 have yG:=(aK.mk (l0.drew).bs4 (aK.mk (m0.drew).bs4 (BN.of (i0.drew))))
 have j0:dQ (w.heap.size+1+1) (aK (BS4 w.heap.size (.bool b) (.slice p n c) (.bool d) (.slice o m e)) (aK (BS4 (w.heap.size+1) (.bool f) (.slice i j k) (.bool g) (.slice r t a)) (BN (w.heap.size+1+1)))):=(aK.hc (BS4.hc (by omega)) (aK.hc (BS4.hc (by omega)) BN.hc))
 have tk1:True:=trivial
 have tk2:True:=trivial
 go_region_held3 (aK (BS4 w.heap.size (.bool b) (.slice p n c) (.bool d) (.slice o m e)) (aK (BS4 (w.heap.size+1) (.bool f) (.slice i j k) (.bool g) (.slice r t a)) (BN (w.heap.size+1+1)))) (first|with_reducible exact yG|with_reducible exact iC.go (aK.hk BS4.hk (aK.hk BS4.hk BN.hk)) (by assumption) (by assumption)|with_reducible exact dQ.go4 j0 (by assumption)|(simp;done))
  (first
   | (((have:=tk1);clear tk1;have n0:=(fb.below hA1).drew;go_at_call 93;(with_reducible refine(a2B _ _ (y) _ n0 mb).mono ?_);rintro e w1 ⟨v1,rfl,hi1,hb1⟩;obtain⟨g1,p1,n1,c1,h1,o1,m1,e1,rfl⟩:=hi1.form))
   | (((have:=tk2);clear tk2;have b5D:=((fa.below hA1).drew.below hb1);have o0:=b5D;have p0:=hi1.raw;go_at_call 115;(with_reducible refine(a1p _ _ _ _ (x) (-(y)) _ o0 p0 qa (RQ.qn hi1 hc5)).mono ?_);rintro e w2 ⟨v2,rfl,hi2,hb2⟩;obtain⟨g2,p2,n2,c2,h2,o2,m2,e2,rfl⟩:=hi2.form;have lS:=((i0.drew.to hb1).to hb2);obtain⟨a0,e0,b0,f0,c0,g0,d0,h0⟩:=lS.cf4)))
 have k0:=(Below.tr (Below.tr (Below.tr bZ hA1).drew hb1) hb2)
 go_wp2_with fail
 exact jh (v:=.agg #[.bool g2,.slice p2 n2 c2,.bool h2,.slice o2 m2 e2]) (by simp[results,Tryz.results145,go_sem,a0,e0,b0,f0,c0,g0,d0,h0]) rfl ⟨_,rfl,by rw[Rat.sub_eq_add_neg];exact(hi2.bG lS rfl rfl rfl rfl (.bool g2) (.slice p2 n2 c2) (.bool h2) (.slice o2 m2 e2)),(Below.bG k0 (b:=w.heap.size+1+1) (by omega) (.bool g2) (.slice p2 n2 c2) (.bool h2) (.slice o2 m2 e2))⟩
theorem b1Q (v u:Value) (x y:Rat) (w:World) (h1:RQ w v x) (h2:RQ w u y) (l1:rsz x<=400000000) (l2:rsz y<=400000000) :
 Calls Tryz.prog 145 #[v,u] w (GQ (x-y) w):=b1R v u true true x y w h1.raw h2.raw (h1.qn l1) (h2.qn l2)
set_option maxRecDepth 20000
theorem bM {G:Prop} (V:Prop) (h:V=G) (v:V):G:=h ▸ v
abbrev asT (α:Type) (x:α):α:=x
abbrev aC (α:Type):List α:=[]
abbrev aB (n:Nat):Int:=(n:Int)
abbrev eP (n:Int):Rat:=(n:Rat)
abbrev aA.{u} {α:Sort u} {p:α->Prop} (x:Subtype p):α:=x.1
abbrev tB:Ty:=.bool
abbrev tM:Ty:=.list (.list tQ)
def c0X (pre:Rat->Rat->Prop) (g:Rat->Rat->Bool):Ctr:=⟨[tQ,tQ],[tB],fun x=>pre x.1 x.2.1,fun x=>(g x.1 x.2.1,())⟩
theorem b2w {f:FuncId} {pre:Rat->Rat->Prop} {g:Rat->Rat->Bool} (h:∀ (v u:Value) (x y:Rat) (w:World),RQ w v x->RQ w u y->pre x y->Calls Tryz.prog f #[v,u] w (GB (g x y) w)):aW Tryz.prog f (c0X pre g):=by
 intro F w vs x hF hvs hp
 obtain⟨v,vs',rfl,h1,u,vs'',rfl,h2,h3⟩:=hvs
 have h3:vs''=[]:=h3
 subst h3
 refine(h v u x.1 x.2.1 w (wE h1) (wE h2) hp).mono ?_
 rintro e w' ⟨rfl,hb⟩
 exact⟨_,rfl,b2f _,hb⟩
def c0Y (pre:Rat->Rat->Prop) (g:Rat->Rat->Int):Ctr:=⟨[tQ,tQ],[tI],fun x=>pre x.1 x.2.1,fun x=>(g x.1 x.2.1,())⟩
theorem b2x {f:FuncId} {pre:Rat->Rat->Prop} {g:Rat->Rat->Int} (h:∀ (v u:Value) (x y:Rat) (w:World),RQ w v x->RQ w u y->pre x y->Calls Tryz.prog f #[v,u] w (fun e w'=>e=.returned (.int .i64 (g x y))/\Below w.heap.size w w')):aW Tryz.prog f (c0Y pre g):=by
 intro F w vs x hF hvs hp
 obtain⟨v,vs',rfl,h1,u,vs'',rfl,h2,h3⟩:=hvs
 have h3:vs''=[]:=h3
 subst h3
 refine(h v u x.1 x.2.1 w (wE h1) (wE h2) hp).mono ?_
 rintro e w' ⟨rfl,hb⟩
 exact⟨_,rfl,a3q _,hb⟩
def cQI (pre:Rat->Prop) (g:Rat->Int):Ctr:=⟨[tQ],[tI],fun x=>pre x.1,fun x=>(g x.1,())⟩
theorem a8H {f:FuncId} {pre:Rat->Prop} {g:Rat->Int} (h:∀ (v:Value) (x:Rat) (w:World),RQ w v x->pre x->Calls Tryz.prog f #[v] w (fun e w'=>e=.returned (.int .i64 (g x))/\Below w.heap.size w w')):aW Tryz.prog f (cQI pre g):=by
 intro F w vs x hF hvs hp
 obtain⟨v,vs',rfl,h1,h3⟩:=hvs
 have h3:vs'=[]:=h3
 subst h3
 refine(h v x.1 w (wE h1) hp).mono ?_
 rintro e w' ⟨rfl,hb⟩
 exact⟨_,rfl,a3q _,hb⟩
def iY (i:Int):Prop:=-9223372036854775808<=i/\i<=9223372036854775807
def cO:aF:=⟨false,0,[],[]⟩
abbrev tR:Ty:=.lf .dF
abbrev tMR:Ty:=.list (.list tR)
theorem b9Q {F:Nat->Prop} {w:World} {v:Value} {x:Rat} (h:RQ w v x):kC F w tR v (eU x):=by
 obtain⟨b,p,c,b',p',c',rfl,r1,r2⟩:=a2K h
 exact⟨_,rfl,b,p,c,b',p',c',rfl,h.raw,r1,r2⟩
theorem b9R {F:Nat->Prop} {w:World}:kC F w tR (.agg #[.bool false,.slice none 0 0,.bool false,.slice none 0 0]) cO :=
 ⟨[.bool false,.slice none 0 0,.bool false,.slice none 0 0],rfl,zW (.lf .dF) _ rfl⟩
def cVal (K:Nat):Ctr:=⟨[tR],[tB],fun x=>(show aF from x.1).n<=K/\(show aF from x.1).m<=K,fun x=>((show aF from x.1).ok,())⟩
theorem c2i {F:Nat->Prop} {w:World} {v:Value} {x:aF} (h:kC F w tR v x):iD w v x.ok x.x/\∀ K,x.n<=K->x.m<=K->Qn v K:=by
 obtain⟨cs,rfl,b,p,c,b',p',c',rfl,h2,_,_⟩:=h
 exact⟨h2,fun K h1 h2=>⟨b,p,_,c,b',p',_,c',rfl,h1,h2⟩⟩
theorem a5q {f:FuncId} {K:Nat} (h:∀ (v:Value) (ok:Bool) (q:Rat) (w:World),iD w v ok q->Qn v K->Calls Tryz.prog f #[v] w (fun e w'=>e=.returned (.bool ok)/\Below w.heap.size w w')):aW Tryz.prog f (cVal K):=by
 intro F w vs x hF hvs hp
 obtain⟨v,vs',rfl,h1,h3⟩:=hvs
 have h3:vs'=[]:=h3
 subst h3
 obtain⟨h4,h5⟩:=c2i h1
 refine(h v _ _ w h4 (h5 K hp.1 hp.2)).mono ?_
 rintro e w' ⟨rfl,hb⟩
 exact⟨_,rfl,b2f _,hb⟩
def b2M (e:Int) (x y:Rat):aF × Int × Unit:=if y=0 then (cO,e,()) else (eU (x / y),(0:Int),())
def a5p (K:Nat) (e:Int):Ctr:=⟨[tQ,tQ],[tR,tI],fun x=>rsz x.1<=K/\rsz x.2.1<=K,fun x=>b2M e x.1 x.2.1⟩
theorem a8F {f:FuncId} {K:Nat} {c:Int} (h:∀ (v u:Value) (x y:Rat) (w:World),RQ w v x->RQ w u y->rsz x<=K->rsz y<=K->y≠0->Calls Tryz.prog f #[v,u] w (GQC (x / y) 0 w)) (h0:∀ (v u:Value) (x y:Rat) (w:World),RQ w v x->RQ w u y->rsz x<=K->rsz y<=K->y=0->Calls Tryz.prog f #[v,u] w (c0i c w)):aW Tryz.prog f (a5p K c):=by
 intro F w vs x hF hvs hp
 obtain⟨v,vs',rfl,h1,u,vs'',rfl,h2,h3⟩:=hvs
 have h3:vs''=[]:=h3
 subst h3
 by_cases hy:(show Rat from x.2.1)=0
 ·refine(h0 v u x.1 x.2.1 w (wE h1) (wE h2) hp.1 hp.2 hy).mono ?_
  rintro e w' ⟨rfl,hb⟩
  refine⟨_,rfl,?_,hb⟩
  rw[show (a5p K c).fn x=(cO,c,()) from gy hy]
  exact⟨[_,_],rfl,_,_,rfl,b9R,_,_,rfl,a3q _,rfl⟩
 ·refine(h v u x.1 x.2.1 w (wE h1) (wE h2) hp.1 hp.2 hy).mono ?_
  rintro e w' ⟨r,rfl,hr,hb⟩
  refine⟨_,rfl,?_,hb⟩
  rw[show (a5p K c).fn x=(eU ((show Rat from x.1) / (show Rat from x.2.1)),(0:Int),()) from ig hy]
  exact⟨[_,_],rfl,_,_,rfl,b9Q hr,_,_,rfl,a3q _,rfl⟩
abbrev s4 (x:Rat):Prop:=rsz x<=400000000
abbrev s44 (x y:Rat):Prop:=rsz x<=400000000/\rsz y<=400000000
theorem QU {α:Type} {p:α->Bool} {xs:List α} {i:Nat} {d:α} (hi:i<xs.length):(xs.take (i+1)).all p=((xs.take i).all p&&p (xs.getD i d)):=by
 rw[Ba,List.all_append,bf,dw hi]
 simp
abbrev s19 (x y:Rat):Prop:=rsz x<=190000000/\rsz y<=190000000
theorem b5j:aW Tryz.prog 98 (cVal 1000000000):=(a5q fun v ok q w h hn=>JC v ok q w h hn)
theorem a6Q:aW Tryz.prog 80 (cIQ iY (fun i=>(i:Rat))):=(a8G fun x w h=>VP x w h.1 h.2)
theorem b5k:aW Tryz.prog 115 (cQ2 s44 (·+·)):=(LV fun v u x y w a b h=>a8w v u x y w a b h.1 h.2)
theorem b2i:aW Tryz.prog 149 (cQ2 s44 (·*·)):=(LV fun v u x y w a b h=>b0t v u x y w a b h.1 h.2)
theorem a3y:aW Tryz.prog 70 (cQI (fun x=>rsz x<=1000000000) (fun x=>sgn x.num)):=(a8H fun v x w h hl=>a8e v x w h hl)
theorem c2t:aW Tryz.prog 173 (a5p 400000000 14):=(a8F (fun v u x y w a b h1 h2 hy=>b2L v u x y w a b h1 h2 hy) (fun v u x y w a b l1 l2 hy=>a3N v u true true x y w a.raw b.raw (a.qn l1) (b.qn l2) hy))
theorem b5l:aW Tryz.prog 145 (cQ2 s44 (·-·)):=(LV fun v u x y w a b h=>b1Q v u x y w a b h.1 h.2)
theorem c2w:aW Tryz.prog 89 (c0Y s44 LW):=(b2x fun v u x y w a b h=>a0b v u x y w a b h.1 h.2)
set_option maxRecDepth 100000
set_option maxHeartbeats 1000000
abbrev LR:Type:=List aF
def sU (q:aF):Prop:=q.n<=1000000000/\q.m<=1000000000
def AQ {α:Type} (p:α->Bool) (xs:List α):Int:=if xs.any p then (xs.findIdx p:Nat) else -1
theorem SC {α:Type} {p:α->Bool} {xs:List α} {i:Nat} {d:α} (hi:i<xs.length) (h0:(xs.take i).any p=false) (h:p (xs.getD i d)=true):AQ p xs=(i:Nat):=by
 have h1:xs.getD i d=xs[i]:=by rw[bf,dw hi];rfl
 rw[h1] at h
 have h2:xs.findIdx p=i:=by
  rw[List.findIdx_eq hi]
  refine⟨h,fun j hj=>?_⟩
  have:=Ag.mp h0 xs[j] (List.mem_take_iff_getElem.mpr ⟨j,by omega,rfl⟩)
  simpa using this
 unfold AQ
 rw[gy (yc.mpr ⟨_,oh hi,h⟩),h2]
theorem a0j {α:Type} {p:α->Bool} {xs:List α} (h:xs.any p=false):AQ p xs=-1:=by unfold AQ;rw[h];rfl
theorem SE {α:Type} (p:α->Bool) (xs:List α):decide (AQ p xs ≥ 0)=xs.any p:=by
 unfold AQ;cases h:xs.any p
 ·rfl
 ·simp
theorem lQ {α:Type} {p:α->Bool} {xs:List α} {i:Nat} {d:α} (hi:i<xs.length):(xs.take (i+1)).any p=((xs.take i).any p || p (xs.getD i d)):=by
 rw[Ba,List.any_append,bf,dw hi]
 simp
theorem eX {α:Type} {p:α->Prop} {xs:List α} (h:∀ x ∈ xs,p x) {i:Nat} (hi:i<xs.length) {d:α}:p (xs.getD i d):=by
 rw[bf,dw hi];exact h _ (oh hi)
theorem aZ {n:Int} (h0:-9223372036854775808<=n) (h1:n<=9223372036854775807):IntKind.wrap .i64 n=n:=by
 unfold IntKind.wrap
 simp only[IntKind.bits,IntKind.signed,Bool.true_and,ay,Nat.reduceSub,Int.reducePow,ge_iff_le]
 split<;>omega
def c2W:Ctr:=⟨[tR],[tB],fun x=>sU x.1,fun x=>(!(show aF from x.1).ok,())⟩
theorem ZR:aW Tryz.prog 163 c2W:=by
 refine lF (nil0.ad b5j) [] Tryz.func163 rfl (by decide) (fun x=>[]) (fun x hp=>?_)
 obtain⟨x,u⟩:=x
 change aF at x
 refine bM (((aF.n x<=1000000000/\aF.m x<=1000000000)/\True)/\True/\(!aF.ok x)=!aF.ok x/\True) (by kernel_rfl) ?_
 exact⟨⟨hp,trivial⟩,trivial,rfl,trivial⟩
def c3l:Ctr:=⟨[.list tR,.clo 163 .unit],[tI],fun x=>(show LR from x.1).length<=1000000/\∀ q ∈ (show LR from x.1),sU q,fun x=>(AQ (fun q:aF=>!q.ok) (show LR from x.1),())⟩
theorem b3j:aW Tryz.prog 180 c3l:=by
 refine lF (nil0.ad ZR) [] Tryz.func180 rfl (by decide) (fun x=>[.inv {k:Nat // k<=(show LR from x.1).length/\((show LR from x.1).take k).any (fun q=>!q.ok)=false} (fun k=>[(8,.val tI (k.1:Int))]) (fun k=>[]) (fun k=>(show LR from x.1).length-k.1) ⟨0,by omega,rfl⟩ (fun _=>[])]) (fun x hp=>?_)
 obtain⟨x,c,u⟩:=x
 change List aF at x
 refine bM ((asT Int 0=0/\True)/\∀ (i:{ k:Nat // k<=List.length x/\(List.any (List.take k x) fun(q:aF)=>!aF.ok q)=false }),asT Bool true=true/\ifB (decide (aB (aA i)<aB x.length)) ((0<=aB (aA i)/\aB (aA i)<aB x.length/\sU (List.getD x (aB (aA i)).toNat { ok:=false,x:=0,g:=aC Nat,h:=aC Nat })/\True)/\ifB (!aF.ok (List.getD x (aB (aA i)).toNat { ok:=false,x:=0,g:=aC Nat,h:=aC Nat })) (True/\aB (aA i)=AQ (fun(q:aF)=>!aF.ok q) x/\True) (∃ (i':{ k:Nat // k<=List.length x/\(List.any (List.take k x) fun(q:aF)=>!aF.ok q)=false }),List.length x-aA i'<List.length x-aA i/\IntKind.wrap IntKind.i64 (aB (aA i)+1)=aB (aA i')/\True)) (True/\-1=AQ (fun(q:aF)=>!aF.ok q) x/\True)) (by kernel_rfl) ?_
 obtain⟨hl,hb⟩:=hp
 have hZ:(⟨false,0,[],[]⟩:aF)=cO:=rfl
 dsimp only[aB,asT,aA,aC] at *
 simp only[hZ,Int.toNat_natCast,aU,ay,au,ni,mg,ny,uj]
 refine fun i=>⟨fun h1=>⟨⟨by omega,h1,eX hb (by omega)⟩,fun h2=>?_,fun h2=>⟨⟨i.1+1,by omega,?_⟩,by simp only;omega,?_⟩⟩,fun h1=>?_⟩
 ·exact(SC (d:=cO) (by omega) i.2.2 (by rw[h2];rfl)).symm
 ·rw[lQ (d:=cO) (by omega),i.2.2,h2];rfl
 ·rw[aZ (by omega) (by omega)];rfl
 ·have h3:=i.2.2
  rw[jd (by omega)] at h3
  exact(a0j h3).symm
def c3a:Ctr:=⟨[.list tR,.clo 163 .unit],[tB],fun x=>(show LR from x.1).length<=1000000/\∀ q ∈ (show LR from x.1),sU q,fun x=>((show LR from x.1).any (fun q:aF=>!q.ok),())⟩
theorem b2E:aW Tryz.prog 162 c3a:=by
 refine lF ((nil0.ad ZR).ad b3j) [] Tryz.func162 rfl (by decide) (fun x=>[]) (fun x hp=>?_)
 obtain⟨x,c,u⟩:=x
 change List aF at x
 refine bM (((List.length x<=1000000/\∀ (q:aF),q ∈ x->sU q)/\True)/\True/\(decide (AQ (fun(q:aF)=>!aF.ok q) x ≥ 0)=List.any x fun(q:aF)=>!aF.ok q)/\True) (by kernel_rfl) ?_
 exact⟨⟨hp,trivial⟩,trivial,SE _ _,trivial⟩
def c0x:Ctr:=⟨[.list tR],[tB],fun x=>(show LR from x.1).length<=1000000/\∀ q ∈ (show LR from x.1),sU q,fun x=>(!(show LR from x.1).any (fun q:aF=>!q.ok),())⟩
theorem mM:aW Tryz.prog 134 c0x:=by
 refine lF ((nil0.ad ZR).ad b2E) [] Tryz.func134 rfl (by decide) (fun x=>[]) (fun x hp=>?_)
 obtain⟨x,u⟩:=x
 change List aF at x
 refine bM (((List.length x<=1000000/\∀ (q:aF),q ∈ x->sU q)/\True)/\True/\((!List.any x fun(q:aF)=>!aF.ok q)=!List.any x fun(q:aF)=>!aF.ok q)/\True) (by kernel_rfl) ?_
 exact⟨⟨hp,trivial⟩,trivial,rfl,trivial⟩
abbrev MR:Type:=List (List aF)
abbrev wdM {α:Type} (a:List (List α)):Nat:=(a.getD 0 []).length
def badR (n:Nat) (r:LR):Bool:=!(r.length==n) || r.any (fun q=>!q.ok)
def rJ (r:LR):Prop:=r.length<=1000000/\∀ q ∈ r,sU q
theorem a2j (m n:Nat):((m:Int) != (n:Int))=!(m==n):=by
 by_cases h:m=n
 ·subst h;simp
 ·rw[jv.mpr h,vk.mpr (fun h2=>h (by exact_mod_cast h2))];rfl
def c0t:Ctr:=⟨[.list tR,.ref tMR],[tB],fun x=>rJ x.1/\0<(show MR from x.2.1).length,fun x=>(badR (wdM (show MR from x.2.1)) x.1,())⟩
theorem QX:aW Tryz.prog 133 c0t:=by
 refine lF (nil0.ad mM) [] Tryz.func133 rfl (by decide) (fun x=>[]) (fun x hp=>?_)
 obtain⟨x,a,u⟩:=x
 change List aF at x
 change List (List aF) at a
 refine bM (let A₁:=(List.getD a 0 (aC aF)).length;let A₀:=(aB x.length != aB A₁);(asT Int 0<=0/\0<aB a.length/\((A₀==false)=true->(A₀==false)=true/\(List.length x<=1000000/\∀ (q:aF),q ∈ x->sU q)/\True)/\((A₀==false)=true->(A₀==false)=true/\True)/\(A₀=false->(A₀==false)=true)/\True)/\True/\(bif aB x.length != aB A₁ then true else !!List.any x fun(q:aF)=>!aF.ok q)=badR (wdM a) x/\True) (by kernel_rfl) ?_
 obtain⟨hs,h0⟩:=hp
 dsimp only[aB,asT,aA,aC] at *
 refine⟨⟨by omega,by omega,fun h=>⟨h,hs,trivial⟩,fun h=>⟨h,trivial⟩,fun h=>by rw[h];rfl,trivial⟩,trivial,?_,trivial⟩
 unfold badR
 rw[Bool.not_not,a2j]
 cases x.length==wdM a<;>rfl
def c3k:Ctr:=⟨[tMR,.clo 133 (.pair (.ref tMR) .unit)],[tI],fun x=>(show MR from x.1).length<=1000000/\(∀ r ∈ (show MR from x.1),rJ r)/\0<(show MR from x.2.1.1).length,fun x=>(AQ (badR (wdM (show MR from x.2.1.1))) (show MR from x.1),())⟩
theorem b3i:aW Tryz.prog 161 c3k:=by
 refine lF (nil0.ad QX) [] Tryz.func161 rfl (by decide) (fun x=>[.inv {k:Nat // k<=(show MR from x.1).length/\((show MR from x.1).take k).any (badR (wdM (show MR from x.2.1.1)))=false} (fun k=>[(8,.val tI (k.1:Int))]) (fun k=>[]) (fun k=>(show MR from x.1).length-k.1) ⟨0,by omega,rfl⟩ (fun _=>[])]) (fun x hp=>?_)
 obtain⟨x,⟨a,c⟩,u⟩:=x
 change List (List aF) at x
 change List (List aF) at a
 refine bM ((asT Int 0=0/\True)/\∀ (i:{ k:Nat // k<=List.length x/\List.any (List.take k x) (badR (wdM a))=false }),asT Bool true=true/\ifB (decide (aB (aA i)<aB x.length)) ((0<=aB (aA i)/\aB (aA i)<aB x.length/\(rJ (List.getD x (aB (aA i)).toNat (aC aF))/\0<List.length a)/\True)/\ifB (badR (wdM a) (List.getD x (aB (aA i)).toNat (aC aF))) (True/\aB (aA i)=AQ (badR (wdM a)) x/\True) (∃ (i':{ k:Nat // k<=List.length x/\List.any (List.take k x) (badR (wdM a))=false }),List.length x-aA i'<List.length x-aA i/\IntKind.wrap IntKind.i64 (aB (aA i)+1)=aB (aA i')/\True)) (True/\-1=AQ (badR (wdM a)) x/\True)) (by kernel_rfl) ?_
 obtain⟨hl,hb,h0⟩:=hp
 dsimp only[aB,asT,aA,aC] at *
 simp only[Int.toNat_natCast,aU,ay,au,ni,mg]
 refine fun i=>⟨fun h1=>⟨⟨by omega,h1,eX hb (by omega),h0⟩,fun h2=>?_,fun h2=>⟨⟨i.1+1,by omega,?_⟩,by simp only;omega,?_⟩⟩,fun h1=>?_⟩
 ·exact(SC (d:=[]) (by omega) i.2.2 h2).symm
 ·rw[lQ (d:=[]) (by omega),i.2.2,h2];rfl
 ·rw[aZ (by omega) (by omega)];rfl
 ·have h3:=i.2.2
  rw[jd (by omega)] at h3
  exact(a0j h3).symm
def c2Z:Ctr:=⟨[tMR,.clo 133 (.pair (.ref tMR) .unit)],[tB],fun x=>(show MR from x.1).length<=1000000/\(∀ r ∈ (show MR from x.1),rJ r)/\0<(show MR from x.2.1.1).length,fun x=>((show MR from x.1).any (badR (wdM (show MR from x.2.1.1))),())⟩
theorem b2D:aW Tryz.prog 132 c2Z:=by
 refine lF ((nil0.ad QX).ad b3i) [] Tryz.func132 rfl (by decide) (fun x=>[]) (fun x hp=>?_)
 obtain⟨x,⟨a,c⟩,u⟩:=x
 change List (List aF) at x
 change List (List aF) at a
 refine bM (((List.length x<=1000000/\(∀ (r:List aF),r ∈ x->rJ r)/\0<List.length a)/\True)/\True/\decide (AQ (badR (wdM a)) x ≥ 0)=List.any x (badR (wdM a))/\True) (by kernel_rfl) ?_
 exact⟨⟨hp,trivial⟩,trivial,SE _ _,trivial⟩
def dK (a:MR):Int:=if 1<=a.length/\a.length<=64/\1<=wdM a/\wdM a<=64/\a.any (badR (wdM a))=false then 0 else 1
def iH (a:MR):Prop:=a.length<=1000000/\∀ r ∈ a,rJ r
def c2Y:Ctr:=⟨[tMR],[tI],fun x=>iH x.1,fun x=>(dK x.1,())⟩
theorem oQ:aW Tryz.prog 88 c2Y:=by
 refine lF ((nil0.ad QX).ad b2D) [] Tryz.func88 rfl (by decide) (fun x=>[]) (fun x hp=>?_)
 obtain⟨a,u⟩:=x
 change List (List aF) at a
 refine bM (let A₂:=(aB a.length<1);let bJ:=(List.getD a 0 (aC aF)).length;let dA:=(aB a.length > 64);let A₀:=(bif bif decide A₂ then true else decide dA then true else decide (aB bJ<1));let aQ:=((A₀==false)=true->(A₀==false)=true/\True);let dJ:=((decide A₂==false)=true->(decide A₂==false)=true/\True);let fP:=(bif decide A₂ then true else decide dA);let A₁:=(fP==false);let dU:=(A₁=true->A₁=true/\True);(dJ/\dJ/\(decide A₂=false->(decide A₂==false)=true)/\(A₁=true->A₁=true/\asT Int 0<=0/\0<aB a.length/\True)/\dU/\dU/\dU/\(fP=false->A₁=true)/\((A₀==false)=true->(A₀==false)=true/\asT Int 0<=0/\0<aB a.length/\True)/\aQ/\aQ/\aQ/\(A₀=false->(A₀==false)=true)/\True)/\ifB (bif bif bif decide A₂ then true else decide dA then true else decide (aB bJ<1) then true else decide (aB bJ > 64)) (True/\1=dK a/\True) (((List.length a<=1000000/\(∀ (r:List aF),r ∈ a->rJ r)/\0<List.length a)/\True)/\ifB (List.any a (badR (wdM a))) (True/\1=dK a/\True) (True/\0=dK a/\True))) (by kernel_rfl) ?_
 dsimp only[aB,asT,aA,aC] at *
 simp only[Int.toNat_natCast,aU,ay,au,ni,mg]
 have eL:∀ n:Nat,decide ((n:Int)<1)=decide (n<1):=fun n=>Bh.mpr (by omega)
 have eG:∀ n:Nat,decide ((n:Int) > 64)=decide (n > 64):=fun n=>Bh.mpr (by omega)
 rw[eL,eG,eL,eG]
 have g1:decide (a.length<1)=false->0<(a.length:Int):=fun h=>by have:=Ai h;omega
 have g2:dK a=bif (decide (a.length<1) || decide (a.length > 64) || decide ((a.getD 0 []).length<1) || decide ((a.getD 0 []).length > 64) || a.any (badR (wdM a))) then 1 else 0:=by
  unfold dK
  by_cases h1:a.length<1
  ·rw[ig (by omega),pz h1];rfl
  ·by_cases h2:a.length > 64
   ·rw[ig (by omega),pz h2];simp
   ·by_cases h3:(a.getD 0 []).length<1
    ·rw[ig (fun h=>by have:=h.2.2.1;unfold wdM at this;omega),pz h3];simp
    ·by_cases h4:(a.getD 0 []).length > 64
     ·rw[ig (fun h=>by have:=h.2.2.2.1;unfold wdM at this;omega),pz h4];simp
     ·rw[jy h1,jy h2,jy h3,jy h4]
      cases h5:a.any (badR (wdM a))
      ·rw[gy ⟨by omega,by omega,by unfold wdM;omega,by unfold wdM;omega,rfl⟩];rfl
      ·rw[ig (fun h=>Bool.noConfusion h.2.2.2.2)];rfl
 have hl:a.length<=1000000:=hp.1
 have hr:∀ r,r ∈ a->rJ r:=hp.2
 rw[g2]
 have g4:decide (a.length<1)=true->(a.length:Int)<1:=fun h=>by have:=ql h;omega
 have g3:(decide (a.length<1)=false->0<a.length):=fun h=>by have:=Ai h;omega
 generalize decide (a.length<1)=b1 at *
 generalize decide (a.length > 64)=b2 at *
 generalize decide ((a.getD 0 []).length<1)=b3 at *
 generalize decide ((a.getD 0 []).length > 64)=b4 at *
 generalize a.any (badR (wdM a))=b5 at *
 clear eL eG g2
 cases b1
 ·have k1:=g1 rfl
  have k3:=g3 rfl
  cases b2<;>cases b3<;>cases b4<;>cases b5<;>simp[k1,k3,hl]<;>exact hr
 ·simp[g4 rfl]
abbrev ML:Type:=List (List (List aF))
theorem a8S (a:MR):dK a=0\/dK a=1:=by unfold dK;split<;>simp
def jC (l:ML):Int:=if l.any (fun a=>dK a != 0) then 1 else 0
def c0z:Ctr:=⟨[.list tMR],[tI],fun x=>(show ML from x.1).length<=1000000/\∀ a ∈ (show ML from x.1),iH a,fun x=>(jC x.1,())⟩
theorem OI:aW Tryz.prog 109 c0z:=by
 refine lF (nil0.ad oQ) [] Tryz.func109 rfl (by decide) (fun x=>[.inv {k:Nat // k<=(show ML from x.1).length/\((show ML from x.1).take k).any (fun a=>dK a != 0)=false} (fun k=>[(8,.val tI (k.1:Int))]) (fun k=>[]) (fun k=>(show ML from x.1).length-k.1) ⟨0,by omega,rfl⟩ (fun _=>[])]) (fun x hp=>?_)
 obtain⟨x,u⟩:=x
 change List (List (List aF)) at x
 refine bM ((asT Int 0=0/\True)/\∀ (i:{ k:Nat // k<=List.length x/\(List.any (List.take k x) fun(a:List (List aF))=>dK a != 0)=false }),asT Bool true=true/\ifB (decide (aB (aA i)<aB x.length)) ((0<=aB (aA i)/\aB (aA i)<aB x.length/\True)/\(iH (List.getD x (aB (aA i)).toNat (aC (List aF)))/\True)/\ifB (dK (List.getD x (aB (aA i)).toNat (aC (List aF))) != 0) (True/\dK (List.getD x (aB (aA i)).toNat (aC (List aF)))=jC x/\True) (∃ (i':{ k:Nat // k<=List.length x/\(List.any (List.take k x) fun(a:List (List aF))=>dK a != 0)=false }),List.length x-aA i'<List.length x-aA i/\IntKind.wrap IntKind.i64 (aB (aA i)+1)=aB (aA i')/\True)) (True/\0=jC x/\True)) (by kernel_rfl) ?_
 obtain⟨hl,hb⟩:=hp
 dsimp only[aB,asT,aA,aC] at *
 simp only[Int.toNat_natCast,aU,ay,au,ni,mg]
 refine fun i=>⟨fun h1=>⟨⟨by omega,h1⟩,eX hb (by omega),fun h2=>?_,fun h2=>⟨⟨i.1+1,by omega,?_⟩,by simp only;omega,?_⟩⟩,fun h1=>?_⟩
 ·have hi:i.1<x.length:=by omega
  have h3:x.any (fun a=>dK a != 0)=true:=yc.mpr ⟨x.getD i.1 [],by rw[bf,dw hi];exact oh hi,h2⟩
  unfold jC;rw[h3]
  rcases a8S (x.getD i.1 []) with h|h
  ·rw[h] at h2;exact absurd h2 (by decide)
  ·rw[h];rfl
 ·rw[lQ (d:=[]) (by omega),i.2.2,h2];rfl
 ·rw[aZ (by omega) (by omega)];rfl
 ·have h3:=i.2.2
  rw[jd (by omega)] at h3
  unfold jC;rw[h3];rfl
abbrev MQ:Type:=List (List Rat)
abbrev ent (a:MQ) (i j:Nat):Rat:=(a.getD i []).getD j 0
def tab (R C:Nat) (f:Nat->Nat->Rat):MQ:=(List.range R).map fun i=>(List.range C).map fun j=>f i j
def aY (R C:Nat) (f:Nat->Nat->Rat):MR:=(List.range R).map fun i=>(List.range C).map fun j=>eU (f i j)
def isM (a:MQ) (R C:Nat):Prop:=a.length=R/\(∀ r ∈ a,r.length=C)/\1<=R/\R<=64/\1<=C/\C<=64
theorem aS (R C:Nat) (f:Nat->Nat->Rat):(aY R C f).length=R:=by simp[aY]
theorem b0n {α:Type} (X:List (List α)) (Z:List α) {k:Nat} (hk:k<X.length):List.map (fun i=>(X++[Z]).getD i []) ((List.range X.length).set k X.length)=X.set k Z:=by
 apply Ac
 ·simp
 ·intro i h1 h2
  have hi:i<X.length:=by simpa using h2
  rw[List.getElem_map,List.getElem_set,List.getElem_set]
  split
  ·simp
  ·rw[List.getElem_range,bf,Ak hi,dw hi];rfl
theorem b3u (n k:Nat):((List.range n).set k n).Nodup:=by
 refine List.nodup_iff_pairwise_ne.mpr (List.pairwise_iff_getElem.mpr fun i j hi hj h=>?_)
 have h1:i<n:=by simpa using hi
 have h2:j<n:=by simpa using hj
 rw[List.getElem_set,List.getElem_set]
 split<;>split<;>simp<;>omega
theorem b0o {α:Type} {H:List (List α)} {k R:Nat} (hH:H.length=k) (hk:k<R) (Z:List α):(H++List.replicate (R-k) []).set k Z=H++[Z]++List.replicate (R-k-1) []:=by
 obtain⟨d,rfl⟩:∃ d,R=k+d+1:=⟨R-k-1,by omega⟩
 subst hH
 rw[show H.length+d+1-H.length=d+1 by omega,show d+1-1=d by omega,List.set_append_right _ _ (aj _),Nat.sub_self,List.replicate_succ,List.set_cons_zero]
 simp
theorem a5V {α:Type} {H T:List (List α)} {k:Nat} (hH:H.length=k) (Z:List α):rowAt (H++[Z]++T) k=Z:=by
 subst hH;unfold rowAt;simp
theorem b0q {α:Type} {H T:List (List α)} {k:Nat} (hH:H.length=k) (Z Y:List α):(H++[Z]++T).set k Y=H++[Y]++T:=by
 subst hH;simp
theorem b0p {α:Type} (g:Nat->α) (z:α) {q C:Nat} (h:q<C):(List.map g (List.range q)++List.replicate (C-q) z).set q (g q)=List.map g (List.range (q+1))++List.replicate (C-(q+1)) z:=by
 obtain⟨d,rfl⟩:∃ d,C=q+d+1:=⟨C-q-1,by omega⟩
 rw[show q+d+1-q=d+1 by omega,show q+d+1-(q+1)=d by omega,List.set_append_right _ _ (by simp),Bv]
 simp[List.replicate_succ]
theorem a8k (k C:Nat) (f:Nat->Nat->Rat):aY (k+1) C f=aY k C f++[List.map (fun j=>eU (f k j)) (List.range C)]:=by unfold aY;rw[Bv];simp
theorem kP {α:Type} {p:α->Prop}:∀ {xs:List α},dS p xs↔∀ x ∈ xs,p x
 | []=>by simp[dS]
 | x::xs=>by simp[dS,kP (xs:=xs)]
theorem tN (R C:Nat) (f:Nat->Nat->Rat):dS (fun x=>bY [dS (fun x=>bY [aF.ok x=true]) x]) (aY R C f):=by
 refine kP.mpr fun r hr=>⟨kP.mpr fun q hq=>⟨?_,trivial⟩,trivial⟩
 obtain⟨i,_,rfl⟩:=ru.mp hr
 obtain⟨j,_,rfl⟩:=ru.mp hq
 rfl
theorem zN (R C:Nat) (f:Nat->Nat->Rat):List.map (fun xs=>List.map (fun x=>aF.x x) xs) (aY R C f)=tab R C f:=by
 unfold aY tab;simp[eU,Function.comp_def]
end Go.Proofs.YtgplhbhfdgempaaGreat
