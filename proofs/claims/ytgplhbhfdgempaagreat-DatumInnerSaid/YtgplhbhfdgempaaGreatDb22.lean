/-
  Lemmas for the statements about datums, part 22 of 37.
-/
import Derived.Test.YtgplhbhfdgempaaGreatDb21
namespace Go.Proofs.YtgplhbhfdgempaaGreat
open Go Go.RowKit
theorem Ak:type_of% @List.take_add_one:=@List.take_add_one
theorem vC:type_of% @List.any_eq_false:=@List.any_eq_false
theorem bn:type_of% @decide_eq_false_iff_not:=@decide_eq_false_iff_not
theorem mg:type_of% @true_and:=@true_and
theorem qw:type_of% @Bool.not_eq_false':=@Bool.not_eq_false'
theorem nS:type_of% @beq_eq_false_iff_ne:=@beq_eq_false_iff_ne
theorem zy:type_of% @of_decide_eq_false:=@of_decide_eq_false
theorem jw:type_of% @decide_eq_true:=@decide_eq_true
theorem oz:type_of% @of_decide_eq_true:=@of_decide_eq_true
set_option maxRecDepth 100000
set_option maxHeartbeats 4000000
set_option linter.unusedSimpArgs false
set_option linter.unusedVariables false
def CP (x y:Rat):Int:=if x<y then -1 else if y<x then 1 else 0
theorem b4e (x y:Rat):eP (x.num*y.den) (y.num*x.den)=CP x y:=by
 unfold eP CP
 simp only[a5P]
theorem a5c (v u:Value) (o1 o2:Bool) (x y:Rat) (w:World) (h1:iI w v o1 x) (h2:iI w u o2 y) (n1:Qn v 400000000) (n2:Qn u 400000000) (hy:y≠0) :
  Calls Tryz.prog 173 #[v,u] w (GQC (x / y) 0 w):=by
 obtain⟨b,p,n,c,d,o,m,e,rfl⟩:=h1.form
 obtain⟨f,i,j,k,g,r,t,a,rfl⟩:=h2.form
 have hl:=h1.lJ n1 (by omega)
 have hl2:=h2.lJ n2 (by omega)
 have m1:=n1.up (show 400000000<=1000000000 by omega)
 have m2:=n2.up (show 400000000<=1000000000 by omega)
 have b1:=fH x
 have b2:=fD x
 have b3:=fH y
 have b4:=fD y
 have c1:=fF x.num y.den
 have c4:=fF x.den y.num
 have HX:=au (a1U x y)
 have hn0:y.num≠0:=fun h=>hy ((AZ y).1 h)
 have hd0:(x.den:Int)*y.num≠0:=fun h=>by
  have:=x.den_nz
  rcases Int.mul_eq_zero.1 h with h|h<;>omega
 have c3l:(sgn y.num==0)=false:=by have:=b3c hn0;simpa using this
 clear hy hn0
 have dG:Below w.heap.size w w:=bf _ _
 go_enter Tryz.func173,Tryz.ntmps173
 go_wp2_with fail
 obtain⟨hA1,y0,z0,j1⟩:=bx3 w rfl [.bool b,.slice p n c,.bool d,.slice o m e] 64 [.bool f,.slice i j k,.bool g,.slice r t a] 64 [.bool false,.slice none 0 0,.bool false,.slice none 0 0] 64
 obtain⟨f2,t2,j2,x2,l2,z2,r2,c3⟩:=y0.drew.cf4
 obtain⟨e3,q3,h3,s3,k3,u3,n3,x3⟩:=z0.drew.cf4
 have tk1:True:=trivial
 have tk2:True:=trivial
 go_region_with
  (first
   | (((have:=tk1);clear tk1;have k1:=(h1.below hA1).drew;go_at_call 119;(with_reducible refine(jP _ _ (x) _ k1 m1).mono ?_);rintro e w1 ⟨v1,rfl,hi1,hb1⟩;obtain⟨g1,p1,n1,c1,h1,o1,m1,e1,rfl⟩:=hi1.form;have eU:=(z0.drew.to hb1);obtain⟨f3,r3,i3,t3,l3,v3,o3,y3⟩:=eU.cf4;have dR:=(y0.drew.to hb1);obtain⟨i2,u2,k2,y2,q2,a3,s2,d3⟩:=dR.cf4))
   | (((have:=tk2);clear tk2;have a1s:=((h2.below hA1).drew.below hb1);have l1:=a1s;go_at_call 119;(with_reducible refine(jP _ _ (y) _ l1 m2).mono ?_);rintro e w2 ⟨v2,rfl,hi2,hb2⟩;obtain⟨g2,p2,n2,c2,h2,o2,m2,e2,rfl⟩:=hi2.form;have dM:=(dR.to hb2);obtain⟨a0,e0,b0,f0,c0,g0,d0,h0⟩:=dM.cf4;have dN:=(eU.to hb2);obtain⟨i0,m0,j0,n0,k0,o0,l0,p0⟩:=dN.cf4)))
 all_goals
  obtain⟨g3,j3,m3,p3⟩:=((dN.fK (b:=w.heap.size) (by omega) (.bool g1) (.slice p1 n1 c1) (.bool h1) (.slice o1 m1 e1)).wP (.bool g2) (.slice p2 n2 c2) (.bool h2) (.slice o2 m2 e2)).cs4
  go_wp2_with fail
  have q1:=((hi2.bM dM rfl rfl rfl rfl (.bool g1) (.slice p1 n1 c1) (.bool h1) (.slice o1 m1 e1)).bM (dN.fK (b:=w.heap.size) (by omega) (.bool g1) (.slice p1 n1 c1) (.bool h1) (.slice o1 m1 e1)) rfl rfl rfl rfl (.bool g2) (.slice p2 n2 c2) (.bool h2) (.slice o2 m2 e2)).num.raw
  (with_reducible refine(sW _ (((y)).num) _ q1).mono ?_)
  rintro e w3 ⟨rfl,hb3⟩
  go_wp2_with fail
  have lZ:=(((dM.wP (.bool g1) (.slice p1 n1 c1) (.bool h1) (.slice o1 m1 e1)).fK (b:=w.heap.size+1) (by omega) (.bool g2) (.slice p2 n2 c2) (.bool h2) (.slice o2 m2 e2)).to hb3)
  have qK:=(((dN.fK (b:=w.heap.size) (by omega) (.bool g1) (.slice p1 n1 c1) (.bool h1) (.slice o1 m1 e1)).wP (.bool g2) (.slice p2 n2 c2) (.bool h2) (.slice o2 m2 e2)).to hb3)
  have NJ:=(((((j1.drew.to hb1).to hb2).fK (b:=w.heap.size) (by omega) (.bool g1) (.slice p1 n1 c1) (.bool h1) (.slice o1 m1 e1)).fK (b:=w.heap.size+1) (by omega) (.bool g2) (.slice p2 n2 c2) (.bool h2) (.slice o2 m2 e2)).to hb3)
  have c4h:=(aO.mk (lZ.drew).bs4 (aO.mk (qK.drew).bs4 (BN.of (NJ.drew))))
  have f1:dW (w.heap.size+1+1) (aO (BS4 w.heap.size (.bool g1) (.slice p1 n1 c1) (.bool h1) (.slice o1 m1 e1)) (aO (BS4 (w.heap.size+1) (.bool g2) (.slice p2 n2 c2) (.bool h2) (.slice o2 m2 e2)) (BN (w.heap.size+1+1)))):=(aO.hc (BS4.hc (by omega)) (aO.hc (BS4.hc (by omega)) BN.hc))
  have tk3:True:=trivial
  have tk4:True:=trivial
  have tk5:True:=trivial
  go_region_held3 (aO (BS4 w.heap.size (.bool g1) (.slice p1 n1 c1) (.bool h1) (.slice o1 m1 e1)) (aO (BS4 (w.heap.size+1) (.bool g2) (.slice p2 n2 c2) (.bool h2) (.slice o2 m2 e2)) (BN (w.heap.size+1+1)))) (first|with_reducible exact c4h|with_reducible exact iH.go (aO.hk BS4.hk (aO.hk BS4.hk BN.hk)) (by assumption) (by assumption)|with_reducible exact dW.go4 f1 (by assumption)|(simp;done))
   (first
    | (((have:=tk3);clear tk3;have a1:=((((hi1.below hb2).bM dM rfl rfl rfl rfl (.bool g1) (.slice p1 n1 c1) (.bool h1) (.slice o1 m1 e1)).bM (dN.fK (b:=w.heap.size) (by omega) (.bool g1) (.slice p1 n1 c1) (.bool h1) (.slice o1 m1 e1)) rfl rfl rfl rfl (.bool g2) (.slice p2 n2 c2) (.bool h2) (.slice o2 m2 e2)).below hb3);have r1:=a1.drew.num.raw;have d1:=(((hi2.bM dM rfl rfl rfl rfl (.bool g1) (.slice p1 n1 c1) (.bool h1) (.slice o1 m1 e1)).bM (dN.fK (b:=w.heap.size) (by omega) (.bool g1) (.slice p1 n1 c1) (.bool h1) (.slice o1 m1 e1)) rfl rfl rfl rfl (.bool g2) (.slice p2 n2 c2) (.bool h2) (.slice o2 m2 e2)).below hb3);have s1:=d1.drew.den.raw;go_at_call 136;(with_reducible refine(mul_any _ _ (((x)).num) ((((y)).den:Int)) _ r1 s1 (by omega) (by omega)).mono ?_);rintro e w4 ⟨v4,rfl,hi4,hb4⟩;obtain⟨g4,p4,n4,c4,rfl⟩:=hi4.form))
    | (((have:=tk4);clear tk4;have z1:=(a1.drew.below hb4);have t1:=z1.den.raw;have a2:=(d1.drew.below hb4);have u1:=a2.num.raw;go_at_call 136;(with_reducible refine(mul_any _ _ ((((x)).den:Int)) (((y)).num) _ t1 u1 (by omega) (by omega)).mono ?_);rintro e w5 ⟨v5,rfl,hi5,hb5⟩;obtain⟨g5,p5,n5,c5,rfl⟩:=hi5.form))
    | (((have:=tk5);clear tk5;have d2:=(hi4.below hb5);have x1:=d2;have y1:=hi5;go_at_call 151;(with_reducible refine(BA _ _ ((((x)).num)*((((y)).den:Int))) (((((x)).den:Int))*(((y)).num)) _ x1 y1 (by omega) (by omega) hd0).mono ?_);rintro e w6 ⟨v6,rfl,hi6,hb6⟩;obtain⟨g6,p6,n6,c6,h6,o6,m6,e6,rfl⟩:=hi6.form;have uK:=(((NJ.drew.to hb4).to hb5).to hb6);obtain⟨q0,u0,r0,v0,s0,w0,t0,x0⟩:=uK.cf4)))
  have i1:=(Below.tr (Below.tr (Below.tr (Below.tr (Below.bM (Below.bM (Below.tr (Below.tr (Below.tr dG hA1).drew hb1) hb2) (b:=w.heap.size) (by omega) (.bool g1) (.slice p1 n1 c1) (.bool h1) (.slice o1 m1 e1)) (b:=w.heap.size+1) (by omega) (.bool g2) (.slice p2 n2 c2) (.bool h2) (.slice o2 m2 e2)) hb3).drew hb4) hb5) hb6)
  go_wp2_with fail
  exact jW (v:=.tuple #[.agg #[.bool g6,.slice p6 n6 c6,.bool h6,.slice o6 m6 e6],.int .i64 0]) (by simp[results,Tryz.results173,go_sem,a0,e0,b0,f0,c0,g0,d0,h0,i0,m0,j0,n0,k0,o0,l0,p0,q0,u0,r0,v0,s0,w0,t0,x0]) rfl ⟨_,rfl,by rw[<-HX.out];exact(hi6.bM uK rfl rfl rfl rfl (.bool g6) (.slice p6 n6 c6) (.bool h6) (.slice o6 m6 e6)),(Below.bM i1 (b:=w.heap.size+1+1) (by omega) (.bool g6) (.slice p6 n6 c6) (.bool h6) (.slice o6 m6 e6))⟩
theorem a5b (v u:Value) (o1 o2:Bool) (x y:Rat) (w:World) (h1:iI w v o1 x) (h2:iI w u o2 y) (n1:Qn v 400000000) (n2:Qn u 400000000) (hy:y=0) :
  Calls Tryz.prog 173 #[v,u] w (c1G 14 w):=by
 obtain⟨b,p,n,c,d,o,m,e,rfl⟩:=h1.form
 obtain⟨f,i,j,k,g,r,t,a,rfl⟩:=h2.form
 have hl:=h1.lJ n1 (by omega)
 have hl2:=h2.lJ n2 (by omega)
 have m1:=n1.up (show 400000000<=1000000000 by omega)
 have m2:=n2.up (show 400000000<=1000000000 by omega)
 have b1:=fH x
 have b2:=fD x
 have b3:=fH y
 have b4:=fD y
 have c3l:(sgn y.num==0)=true:=by rw[hy];rfl
 clear hy
 have dG:Below w.heap.size w w:=bf _ _
 go_enter Tryz.func173,Tryz.ntmps173
 go_wp2_with fail
 obtain⟨hA1,y0,z0,d1⟩:=bx3 w rfl [.bool b,.slice p n c,.bool d,.slice o m e] 64 [.bool f,.slice i j k,.bool g,.slice r t a] 64 [.bool false,.slice none 0 0,.bool false,.slice none 0 0] 64
 obtain⟨k1,y1,q1,a2,s1,f2,u1,j2⟩:=y0.drew.cf4
 obtain⟨l2,e3,s2,g3,x2,i3,a3,k3⟩:=z0.drew.cf4
 have tk1:True:=trivial
 have tk2:True:=trivial
 go_region_with
  (first
   | (((have:=tk1);clear tk1;have f1:=(h1.below hA1).drew;go_at_call 119;(with_reducible refine(jP _ _ (x) _ f1 m1).mono ?_);rintro e w1 ⟨v1,rfl,hi1,hb1⟩;obtain⟨g1,p1,n1,c1,h1,o1,m1,e1,rfl⟩:=hi1.form;have eU:=(z0.drew.to hb1);obtain⟨q2,f3,t2,h3,y2,j3,c3,l3⟩:=eU.cf4;have dR:=(y0.drew.to hb1);obtain⟨l1,z1,r1,d2,t1,i2,x1,k2⟩:=dR.cf4))
   | (((have:=tk2);clear tk2;have a1s:=((h2.below hA1).drew.below hb1);have i1:=a1s;go_at_call 119;(with_reducible refine(jP _ _ (y) _ i1 m2).mono ?_);rintro e w2 ⟨v2,rfl,hi2,hb2⟩;obtain⟨g2,p2,n2,c2,h2,o2,m2,e2,rfl⟩:=hi2.form;have dM:=(dR.to hb2);obtain⟨a0,e0,b0,f0,c0,g0,d0,h0⟩:=dM.cf4;have dN:=(eU.to hb2);obtain⟨i0,m0,j0,n0,k0,o0,l0,p0⟩:=dN.cf4)))
 all_goals
  obtain⟨r2,u2,z2,d3⟩:=((dN.fK (b:=w.heap.size) (by omega) (.bool g1) (.slice p1 n1 c1) (.bool h1) (.slice o1 m1 e1)).wP (.bool g2) (.slice p2 n2 c2) (.bool h2) (.slice o2 m2 e2)).cs4
  go_wp2_with fail
  have j1:=((hi2.bM dM rfl rfl rfl rfl (.bool g1) (.slice p1 n1 c1) (.bool h1) (.slice o1 m1 e1)).bM (dN.fK (b:=w.heap.size) (by omega) (.bool g1) (.slice p1 n1 c1) (.bool h1) (.slice o1 m1 e1)) rfl rfl rfl rfl (.bool g2) (.slice p2 n2 c2) (.bool h2) (.slice o2 m2 e2)).num.raw
  (with_reducible refine(sW _ (((y)).num) _ j1).mono ?_)
  rintro e w3 ⟨rfl,hb3⟩
  have NJ:=(((((d1.drew.to hb1).to hb2).fK (b:=w.heap.size) (by omega) (.bool g1) (.slice p1 n1 c1) (.bool h1) (.slice o1 m1 e1)).fK (b:=w.heap.size+1) (by omega) (.bool g2) (.slice p2 n2 c2) (.bool h2) (.slice o2 m2 e2)).to hb3)
  obtain⟨q0,u0,r0,v0,s0,w0,t0,x0⟩:=NJ.cf4
  have a1:=(Below.tr (Below.bM (Below.bM (Below.tr (Below.tr (Below.tr dG hA1).drew hb1) hb2) (b:=w.heap.size) (by omega) (.bool g1) (.slice p1 n1 c1) (.bool h1) (.slice o1 m1 e1)) (b:=w.heap.size+1) (by omega) (.bool g2) (.slice p2 n2 c2) (.bool h2) (.slice o2 m2 e2)) hb3)
  go_wp2_with fail
  exact jW (v:=.tuple #[.agg #[.bool false,.slice none 0 0,.bool false,.slice none 0 0],.int .i64 14]) (by simp[results,Tryz.results173,go_sem,a0,e0,b0,f0,c0,g0,d0,h0,i0,m0,j0,n0,k0,o0,l0,p0,q0,u0,r0,v0,s0,w0,t0,x0]) rfl ⟨rfl,(Below.bM a1 (b:=w.heap.size+1+1) (by omega) (.bool false) (.slice none 0 0) (.bool false) (.slice none 0 0))⟩
theorem a1f (v u:Value) (o1 o2:Bool) (x y:Rat) (w:World) (h1:iI w v o1 x) (h2:iI w u o2 y) (n1:Qn v 400000000) (n2:Qn u 400000000) :
  Calls Tryz.prog 89 #[v,u] w (fun e w'=>e=.returned (.int .i64 (CP x y))/\Below w.heap.size w w'):=by
 obtain⟨b,p,n,c,d,o,m,e,rfl⟩:=h1.form
 obtain⟨f,i,j,k,g,r,t,a,rfl⟩:=h2.form
 have hl:=h1.lJ n1 (by omega)
 have hl2:=h2.lJ n2 (by omega)
 have m1:=n1.up (show 400000000<=1000000000 by omega)
 have m2:=n2.up (show 400000000<=1000000000 by omega)
 have b1:=fH x
 have b2:=fD x
 have b3:=fH y
 have b4:=fD y
 have c1:=fF x.num y.den
 have c2:=fF y.num x.den
 have dG:Below w.heap.size w w:=bf _ _
 go_enter Tryz.func89,Tryz.ntmps89
 go_wp2_with fail
 obtain⟨hA1,a0,b0⟩:=bx2 w rfl [.bool b,.slice p n c,.bool d,.slice o m e] 64 [.bool f,.slice i j k,.bool g,.slice r t a] 64
 obtain⟨p0,d1,s0,j1,v0,q1,y0,t1⟩:=a0.drew.cf4
 obtain⟨y1,t2,d2,y2,j2,d3,q2,h3⟩:=b0.drew.cf4
 have tk1:True:=trivial
 have tk2:True:=trivial
 go_region_with
  (first
   | (((have:=tk1);clear tk1;have e0:=(h1.below hA1).drew;go_at_call 119;(with_reducible refine(jP _ _ (x) _ e0 m1).mono ?_);rintro e w1 ⟨v1,rfl,hi1,hb1⟩;obtain⟨g1,p1,n1,c1,h1,o1,m1,e1,rfl⟩:=hi1.form;have eU:=(b0.drew.to hb1);obtain⟨z1,u2,f2,z2,k2,e3,r2,i3⟩:=eU.cf4;have dR:=(a0.drew.to hb1);obtain⟨q0,f1,t0,k1,w0,r1,z0,u1⟩:=dR.cf4))
   | (((have:=tk2);clear tk2;have a1s:=((h2.below hA1).drew.below hb1);have f0:=a1s;go_at_call 119;(with_reducible refine(jP _ _ (y) _ f0 m2).mono ?_);rintro e w2 ⟨v2,rfl,hi2,hb2⟩;obtain⟨g2,p2,n2,c2,h2,o2,m2,e2,rfl⟩:=hi2.form;have dM:=(dR.to hb2);obtain⟨r0,i1,u0,l1,x0,s1,a1,x1⟩:=dM.cf4;have dN:=(eU.to hb2);obtain⟨a2,x2,i2,a3,l2,f3,s2,j3⟩:=dN.cf4)))
 all_goals
  go_wp2_with fail
  have a0N:=(aO.mk (((dM.wP (.bool g1) (.slice p1 n1 c1) (.bool h1) (.slice o1 m1 e1)).fK (b:=w.heap.size+1) (by omega) (.bool g2) (.slice p2 n2 c2) (.bool h2) (.slice o2 m2 e2)).drew).bs4 (((dN.fK (b:=w.heap.size) (by omega) (.bool g1) (.slice p1 n1 c1) (.bool h1) (.slice o1 m1 e1)).wP (.bool g2) (.slice p2 n2 c2) (.bool h2) (.slice o2 m2 e2)).drew).bs4)
  have tk3:True:=trivial
  have tk4:True:=trivial
  have tk5:True:=trivial
  go_region_held3 (aO (BS4 w.heap.size (.bool g1) (.slice p1 n1 c1) (.bool h1) (.slice o1 m1 e1)) (BS4 (w.heap.size+1) (.bool g2) (.slice p2 n2 c2) (.bool h2) (.slice o2 m2 e2))) (first|with_reducible exact a0N|with_reducible exact iH.go (aO.hk BS4.hk BS4.hk) (by assumption) (by assumption)|(simp;done))
   (first
    | (((have:=tk3);clear tk3;have c0:=(hi1.below hb2);have g0:=((c0.bM dM rfl rfl rfl rfl (.bool g1) (.slice p1 n1 c1) (.bool h1) (.slice o1 m1 e1)).bM (dN.fK (b:=w.heap.size) (by omega) (.bool g1) (.slice p1 n1 c1) (.bool h1) (.slice o1 m1 e1)) rfl rfl rfl rfl (.bool g2) (.slice p2 n2 c2) (.bool h2) (.slice o2 m2 e2)).drew.num.raw;have h0:=((hi2.bM dM rfl rfl rfl rfl (.bool g1) (.slice p1 n1 c1) (.bool h1) (.slice o1 m1 e1)).bM (dN.fK (b:=w.heap.size) (by omega) (.bool g1) (.slice p1 n1 c1) (.bool h1) (.slice o1 m1 e1)) rfl rfl rfl rfl (.bool g2) (.slice p2 n2 c2) (.bool h2) (.slice o2 m2 e2)).drew.den.raw;go_at_call 136;(with_reducible refine(mul_any _ _ (((x)).num) ((((y)).den:Int)) _ g0 h0 (by omega) (by omega)).mono ?_);rintro e w3 ⟨v3,rfl,hi3,hb3⟩;obtain⟨g3,p3,n3,c3,rfl⟩:=hi3.form))
    | (((have:=tk4);clear tk4;have n0:=(((hi2.bM dM rfl rfl rfl rfl (.bool g1) (.slice p1 n1 c1) (.bool h1) (.slice o1 m1 e1)).bM (dN.fK (b:=w.heap.size) (by omega) (.bool g1) (.slice p1 n1 c1) (.bool h1) (.slice o1 m1 e1)) rfl rfl rfl rfl (.bool g2) (.slice p2 n2 c2) (.bool h2) (.slice o2 m2 e2)).drew.below hb3);have i0:=n0.num.raw;have m0:=(((c0.bM dM rfl rfl rfl rfl (.bool g1) (.slice p1 n1 c1) (.bool h1) (.slice o1 m1 e1)).bM (dN.fK (b:=w.heap.size) (by omega) (.bool g1) (.slice p1 n1 c1) (.bool h1) (.slice o1 m1 e1)) rfl rfl rfl rfl (.bool g2) (.slice p2 n2 c2) (.bool h2) (.slice o2 m2 e2)).drew.below hb3);have j0:=m0.den.raw;go_at_call 136;(with_reducible refine(mul_any _ _ (((y)).num) ((((x)).den:Int)) _ i0 j0 (by omega) (by omega)).mono ?_);rintro e w4 ⟨v4,rfl,hi4,hb4⟩;obtain⟨g4,p4,n4,c4,rfl⟩:=hi4.form))
    | (((have:=tk5);clear tk5;have o0:=(hi3.below hb4);have k0:=o0.raw;have l0:=hi4.raw;go_at_call 135;(with_reducible refine(LG _ _ ((((x)).num)*((((y)).den:Int))) ((((y)).num)*((((x)).den:Int))) _ k0 l0).mono ?_);rintro e w5 ⟨rfl,hb5⟩)))
  have d0:=(Below.tr (Below.tr (Below.tr (Below.bM (Below.bM (Below.tr (Below.tr (Below.tr dG hA1).drew hb1) hb2) (b:=w.heap.size) (by omega) (.bool g1) (.slice p1 n1 c1) (.bool h1) (.slice o1 m1 e1)) (b:=w.heap.size+1) (by omega) (.bool g2) (.slice p2 n2 c2) (.bool h2) (.slice o2 m2 e2)).drew hb3) hb4) hb5)
  go_wp2_with fail
  go_ret
  exact⟨iZ (b4e x y),d0⟩
theorem a1e (v u:Value) (x y:Rat) (w:World) (h1:RQ w v x) (h2:RQ w u y) (l1:rsz x<=400000000) (l2:rsz y<=400000000) :
 Calls Tryz.prog 89 #[v,u] w (fun e w'=>e=.returned (.int .i64 (CP x y))/\Below w.heap.size w w'):=a1f v u true true x y w h1.raw h2.raw (h1.qn l1) (h2.qn l2)
theorem b4o (v u:Value) (x y:Rat) (w:World) (h1:RQ w v x) (h2:RQ w u y) (l1:rsz x<=400000000) (l2:rsz y<=400000000) (hy:y≠0) :
 Calls Tryz.prog 173 #[v,u] w (GQC (x / y) 0 w):=a5c v u true true x y w h1.raw h2.raw (h1.qn l1) (h2.qn l2) hy
theorem b3t (v u:Value) (o1 o2:Bool) (x y:Rat) (w:World) (fa:iI w v o1 x) (fb:iI w u o2 y) (qa:Qn v 400000000) (qb:Qn u 400000000) :
  Calls Tryz.prog 145 #[v,u] w (GQ (x-y) w):=by
 obtain⟨b,p,n,c,d,o,m,e,rfl⟩:=fa.form
 obtain⟨f,i,j,k,g,r,t,a,rfl⟩:=fb.form
 have hl:=fa.lJ qa (by omega)
 have hl2:=fb.lJ qb (by omega)
 have ma:=qa.up (show 400000000<=1000000000 by omega)
 have mb:=qb.up (show 400000000<=1000000000 by omega)
 have b1:=fH x
 have b2:=fD x
 have b3:=fH y
 have b4:=fD y
 have hc5:rsz (-y)<=400000000:=by rw[a2d];exact hl2
 have dG:Below w.heap.size w w:=bf _ _
 go_enter Tryz.func145,Tryz.ntmps145
 go_wp2_with fail
 obtain⟨hA1,l0,m0,i0⟩:=bx3 w rfl [.bool b,.slice p n c,.bool d,.slice o m e] 64 [.bool f,.slice i j k,.bool g,.slice r t a] 64 [.bool false,.slice none 0 0,.bool false,.slice none 0 0] 64
 have zJ:=(aO.mk (l0.drew).bs4 (aO.mk (m0.drew).bs4 (BN.of (i0.drew))))
 have j0:dW (w.heap.size+1+1) (aO (BS4 w.heap.size (.bool b) (.slice p n c) (.bool d) (.slice o m e)) (aO (BS4 (w.heap.size+1) (.bool f) (.slice i j k) (.bool g) (.slice r t a)) (BN (w.heap.size+1+1)))):=(aO.hc (BS4.hc (by omega)) (aO.hc (BS4.hc (by omega)) BN.hc))
 have tk1:True:=trivial
 have tk2:True:=trivial
 go_region_held3 (aO (BS4 w.heap.size (.bool b) (.slice p n c) (.bool d) (.slice o m e)) (aO (BS4 (w.heap.size+1) (.bool f) (.slice i j k) (.bool g) (.slice r t a)) (BN (w.heap.size+1+1)))) (first|with_reducible exact zJ|with_reducible exact iH.go (aO.hk BS4.hk (aO.hk BS4.hk BN.hk)) (by assumption) (by assumption)|with_reducible exact dW.go4 j0 (by assumption)|(simp;done))
  (first
   | (((have:=tk1);clear tk1;have n0:=(fb.below hA1).drew;go_at_call 93;(with_reducible refine(a3L _ _ (y) _ n0 mb).mono ?_);rintro e w1 ⟨v1,rfl,hi1,hb1⟩;obtain⟨g1,p1,n1,c1,h1,o1,m1,e1,rfl⟩:=hi1.form))
   | (((have:=tk2);clear tk2;have b7g:=((fa.below hA1).drew.below hb1);have o0:=b7g;have p0:=hi1.raw;go_at_call 115;(with_reducible refine(a2B _ _ _ _ (x) (-(y)) _ o0 p0 qa (RQ.qn hi1 hc5)).mono ?_);rintro e w2 ⟨v2,rfl,hi2,hb2⟩;obtain⟨g2,p2,n2,c2,h2,o2,m2,e2,rfl⟩:=hi2.form;have mO:=((i0.drew.to hb1).to hb2);obtain⟨a0,e0,b0,f0,c0,g0,d0,h0⟩:=mO.cf4)))
 have k0:=(Below.tr (Below.tr (Below.tr dG hA1).drew hb1) hb2)
 go_wp2_with fail
 exact jW (v:=.agg #[.bool g2,.slice p2 n2 c2,.bool h2,.slice o2 m2 e2]) (by simp[results,Tryz.results145,go_sem,a0,e0,b0,f0,c0,g0,d0,h0]) rfl ⟨_,rfl,by rw[Rat.sub_eq_add_neg];exact(hi2.bM mO rfl rfl rfl rfl (.bool g2) (.slice p2 n2 c2) (.bool h2) (.slice o2 m2 e2)),(Below.bM k0 (b:=w.heap.size+1+1) (by omega) (.bool g2) (.slice p2 n2 c2) (.bool h2) (.slice o2 m2 e2))⟩
theorem b3s (v u:Value) (x y:Rat) (w:World) (h1:RQ w v x) (h2:RQ w u y) (l1:rsz x<=400000000) (l2:rsz y<=400000000) :
 Calls Tryz.prog 145 #[v,u] w (GQ (x-y) w):=b3t v u true true x y w h1.raw h2.raw (h1.qn l1) (h2.qn l2)
set_option maxRecDepth 20000
theorem bP {G:Prop} (V:Prop) (h:V=G) (v:V):G:=h ▸ v
abbrev asT (α:Type) (x:α):α:=x
abbrev aC (α:Type):List α:=[]
abbrev aA (n:Nat):Int:=(n:Int)
abbrev dD (n:Int):Rat:=(n:Rat)
abbrev aB.{u} {α:Sort u} {p:α->Prop} (x:Subtype p):α:=x.1
abbrev tB:Ty:=.bool
abbrev tM:Ty:=.list (.list tQ)
def c2t (pre:Rat->Rat->Prop) (g:Rat->Rat->Bool):Ctr:=⟨[tQ,tQ],[tB],fun x=>pre x.1 x.2.1,fun x=>(g x.1 x.2.1,())⟩
theorem b3Y {f:FuncId} {pre:Rat->Rat->Prop} {g:Rat->Rat->Bool} (h:∀ (v u:Value) (x y:Rat) (w:World),RQ w v x->RQ w u y->pre x y->Calls Tryz.prog f #[v,u] w (GB (g x y) w)):aY Tryz.prog f (c2t pre g):=by
 intro F w vs x hF hvs hp
 obtain⟨v,vs',rfl,h1,u,vs'',rfl,h2,h3⟩:=hvs
 have h3:vs''=[]:=h3
 subst h3
 refine(h v u x.1 x.2.1 w (xK h1) (xK h2) hp).mono ?_
 rintro e w' ⟨rfl,hb⟩
 exact⟨_,rfl,b3K _,hb⟩
def b6V (pre:Rat->Rat->Prop) (g:Rat->Rat->Int):Ctr:=⟨[tQ,tQ],[tI],fun x=>pre x.1 x.2.1,fun x=>(g x.1 x.2.1,())⟩
theorem a6I {f:FuncId} {pre:Rat->Rat->Prop} {g:Rat->Rat->Int} (h:∀ (v u:Value) (x y:Rat) (w:World),RQ w v x->RQ w u y->pre x y->Calls Tryz.prog f #[v,u] w (fun e w'=>e=.returned (.int .i64 (g x y))/\Below w.heap.size w w')):aY Tryz.prog f (b6V pre g):=by
 intro F w vs x hF hvs hp
 obtain⟨v,vs',rfl,h1,u,vs'',rfl,h2,h3⟩:=hvs
 have h3:vs''=[]:=h3
 subst h3
 refine(h v u x.1 x.2.1 w (xK h1) (xK h2) hp).mono ?_
 rintro e w' ⟨rfl,hb⟩
 exact⟨_,rfl,a4A _,hb⟩
def cQI (pre:Rat->Prop) (g:Rat->Int):Ctr:=⟨[tQ],[tI],fun x=>pre x.1,fun x=>(g x.1,())⟩
theorem b0p {f:FuncId} {pre:Rat->Prop} {g:Rat->Int} (h:∀ (v:Value) (x:Rat) (w:World),RQ w v x->pre x->Calls Tryz.prog f #[v] w (fun e w'=>e=.returned (.int .i64 (g x))/\Below w.heap.size w w')):aY Tryz.prog f (cQI pre g):=by
 intro F w vs x hF hvs hp
 obtain⟨v,vs',rfl,h1,h3⟩:=hvs
 have h3:vs'=[]:=h3
 subst h3
 refine(h v x.1 w (xK h1) hp).mono ?_
 rintro e w' ⟨rfl,hb⟩
 exact⟨_,rfl,a4A _,hb⟩
def gZ (i:Int):Prop:=-9223372036854775808<=i/\i<=9223372036854775807
def bV:aF:=⟨false,0,[],[]⟩
abbrev tR:Ty:=.lf .aU
abbrev tMR:Ty:=.list (.list tR)
theorem c1z {F:Nat->Prop} {w:World} {v:Value} {x:Rat} (h:RQ w v x):kM F w tR v (dS x):=by
 obtain⟨b,p,c,b',p',c',rfl,r1,r2⟩:=a3W h
 exact⟨_,rfl,b,p,c,b',p',c',rfl,h.raw,r1,r2⟩
theorem c1A {F:Nat->Prop} {w:World}:kM F w tR (.agg #[.bool false,.slice none 0 0,.bool false,.slice none 0 0]) bV :=
 ⟨[.bool false,.slice none 0 0,.bool false,.slice none 0 0],rfl,BZ (.lf .aU) _ rfl⟩
def cVal (K:Nat):Ctr:=⟨[tR],[tB],fun x=>(show aF from x.1).n<=K/\(show aF from x.1).m<=K,fun x=>((show aF from x.1).ok,())⟩
theorem c3J {F:Nat->Prop} {w:World} {v:Value} {x:aF} (h:kM F w tR v x):iI w v x.ok x.x/\∀ K,x.n<=K->x.m<=K->Qn v K:=by
 obtain⟨cs,rfl,b,p,c,b',p',c',rfl,h2,_,_⟩:=h
 exact⟨h2,fun K h1 h2=>⟨b,p,_,c,b',p',_,c',rfl,h1,h2⟩⟩
theorem a6J {f:FuncId} {K:Nat} (h:∀ (v:Value) (ok:Bool) (q:Rat) (w:World),iI w v ok q->Qn v K->Calls Tryz.prog f #[v] w (fun e w'=>e=.returned (.bool ok)/\Below w.heap.size w w')):aY Tryz.prog f (cVal K):=by
 intro F w vs x hF hvs hp
 obtain⟨v,vs',rfl,h1,h3⟩:=hvs
 have h3:vs'=[]:=h3
 subst h3
 obtain⟨h4,h5⟩:=c3J h1
 refine(h v _ _ w h4 (h5 K hp.1 hp.2)).mono ?_
 rintro e w' ⟨rfl,hb⟩
 exact⟨_,rfl,b3K _,hb⟩
def b4p (e:Int) (x y:Rat):aF × Int × Unit:=if y=0 then (bV,e,()) else (dS (x / y),(0:Int),())
def a6H (K:Nat) (e:Int):Ctr:=⟨[tQ,tQ],[tR,tI],fun x=>rsz x.1<=K/\rsz x.2.1<=K,fun x=>b4p e x.1 x.2.1⟩
theorem b0m {f:FuncId} {K:Nat} {c:Int} (h:∀ (v u:Value) (x y:Rat) (w:World),RQ w v x->RQ w u y->rsz x<=K->rsz y<=K->y≠0->Calls Tryz.prog f #[v,u] w (GQC (x / y) 0 w)) (h0:∀ (v u:Value) (x y:Rat) (w:World),RQ w v x->RQ w u y->rsz x<=K->rsz y<=K->y=0->Calls Tryz.prog f #[v,u] w (c1G c w)):aY Tryz.prog f (a6H K c):=by
 intro F w vs x hF hvs hp
 obtain⟨v,vs',rfl,h1,u,vs'',rfl,h2,h3⟩:=hvs
 have h3:vs''=[]:=h3
 subst h3
 by_cases hy:(show Rat from x.2.1)=0
 ·refine(h0 v u x.1 x.2.1 w (xK h1) (xK h2) hp.1 hp.2 hy).mono ?_
  rintro e w' ⟨rfl,hb⟩
  refine⟨_,rfl,?_,hb⟩
  rw[show (a6H K c).fn x=(bV,c,()) from eY hy]
  exact⟨[_,_],rfl,_,_,rfl,c1A,_,_,rfl,a4A _,rfl⟩
 ·refine(h v u x.1 x.2.1 w (xK h1) (xK h2) hp.1 hp.2 hy).mono ?_
  rintro e w' ⟨r,rfl,hr,hb⟩
  refine⟨_,rfl,?_,hb⟩
  rw[show (a6H K c).fn x=(dS ((show Rat from x.1) / (show Rat from x.2.1)),(0:Int),()) from dw hy]
  exact⟨[_,_],rfl,_,_,rfl,c1z hr,_,_,rfl,a4A _,rfl⟩
abbrev s4 (x:Rat):Prop:=rsz x<=400000000
abbrev s44 (x y:Rat):Prop:=rsz x<=400000000/\rsz y<=400000000
theorem TT {α:Type} {p:α->Bool} {xs:List α} {i:Nat} {d:α} (hi:i<xs.length):(xs.take (i+1)).all p=((xs.take i).all p&&p (xs.getD i d)):=by
 rw[Ak,List.all_append,ay,dn hi]
 simp
abbrev s19 (x y:Rat):Prop:=rsz x<=190000000/\rsz y<=190000000
theorem b6J:aY Tryz.prog 98 (cVal 1000000000):=(a6J fun v ok q w h hn=>KU v ok q w h hn)
theorem a4I:aY Tryz.prog 80 (cIQ gZ (fun i=>(i:Rat))):=(b0n fun x w h=>YC x w h.1 h.2)
theorem b6K:aY Tryz.prog 115 (cQ2 s44 (·+·)):=(OH fun v u x y w a b h=>b0a v u x y w a b h.1 h.2)
theorem b3O:aY Tryz.prog 149 (cQ2 s44 (·*·)):=(OH fun v u x y w a b h=>b2e v u x y w a b h.1 h.2)
theorem a4J:aY Tryz.prog 70 (cQI (fun x=>rsz x<=1000000000) (fun x=>sgn x.num)):=(b0p fun v x w h hl=>a9H v x w h hl)
theorem c3T:aY Tryz.prog 173 (a6H 400000000 14):=(b0m (fun v u x y w a b h1 h2 hy=>b4o v u x y w a b h1 h2 hy) (fun v u x y w a b l1 l2 hy=>a5b v u true true x y w a.raw b.raw (a.qn l1) (b.qn l2) hy))
theorem b6L:aY Tryz.prog 145 (cQ2 s44 (·-·)):=(OH fun v u x y w a b h=>b3s v u x y w a b h.1 h.2)
theorem c3W:aY Tryz.prog 89 (b6V s44 CP):=(a6I fun v u x y w a b h=>a1e v u x y w a b h.1 h.2)
set_option maxRecDepth 100000
set_option maxHeartbeats 1000000
abbrev LR:Type:=List aF
def uU (q:aF):Prop:=q.n<=1000000000/\q.m<=1000000000
def CQ {α:Type} (p:α->Bool) (xs:List α):Int:=if xs.any p then (xs.findIdx p:Nat) else -1
theorem VB {α:Type} {p:α->Bool} {xs:List α} {i:Nat} {d:α} (hi:i<xs.length) (h0:(xs.take i).any p=false) (h:p (xs.getD i d)=true):CQ p xs=(i:Nat):=by
 have h1:xs.getD i d=xs[i]:=by rw[ay,dn hi];rfl
 rw[h1] at h
 have h2:xs.findIdx p=i:=by
  rw[List.findIdx_eq hi]
  refine⟨h,fun j hj=>?_⟩
  have:=vC.mp h0 xs[j] (List.mem_take_iff_getElem.mpr ⟨j,by omega,rfl⟩)
  simpa using this
 unfold CQ
 rw[eY (tY.mpr ⟨_,jm hi,h⟩),h2]
theorem a1p {α:Type} {p:α->Bool} {xs:List α} (h:xs.any p=false):CQ p xs=-1:=by unfold CQ;rw[h];rfl
theorem VD {α:Type} (p:α->Bool) (xs:List α):decide (CQ p xs ≥ 0)=xs.any p:=by
 unfold CQ;cases h:xs.any p
 ·rfl
 ·simp
theorem mM {α:Type} {p:α->Bool} {xs:List α} {i:Nat} {d:α} (hi:i<xs.length):(xs.take (i+1)).any p=((xs.take i).any p || p (xs.getD i d)):=by
 rw[Ak,List.any_append,ay,dn hi]
 simp
theorem fA {α:Type} {p:α->Prop} {xs:List α} (h:∀ x ∈ xs,p x) {i:Nat} (hi:i<xs.length) {d:α}:p (xs.getD i d):=by
 rw[ay,dn hi];exact h _ (jm hi)
theorem bF {n:Int} (h0:-9223372036854775808<=n) (h1:n<=9223372036854775807):IntKind.wrap .i64 n=n:=by
 unfold IntKind.wrap
 simp only[IntKind.bits,IntKind.signed,Bool.true_and,dh,Nat.reduceSub,Int.reducePow,ge_iff_le]
 split<;>omega
def c4o:Ctr:=⟨[tR],[tB],fun x=>uU x.1,fun x=>(!(show aF from x.1).ok,())⟩
theorem a0W:aY Tryz.prog 163 c4o:=by
 refine lX (nil0.ad b6J) [] Tryz.func163 rfl (by decide) (fun x=>[]) (fun x hp=>?_)
 obtain⟨x,u⟩:=x
 change aF at x
 refine bP (((aF.n x<=1000000000/\aF.m x<=1000000000)/\True)/\True/\(!aF.ok x)=!aF.ok x/\True) (by kernel_rfl) ?_
 exact⟨⟨hp,trivial⟩,trivial,rfl,trivial⟩
def c4E:Ctr:=⟨[.list tR,.clo 163 .unit],[tI],fun x=>(show LR from x.1).length<=1000000/\∀ q ∈ (show LR from x.1),uU q,fun x=>(CQ (fun q:aF=>!q.ok) (show LR from x.1),())⟩
theorem b4N:aY Tryz.prog 180 c4E:=by
 refine lX (nil0.ad a0W) [] Tryz.func180 rfl (by decide) (fun x=>[.inv {k:Nat // k<=(show LR from x.1).length/\((show LR from x.1).take k).any (fun q=>!q.ok)=false} (fun k=>[(8,.val tI (k.1:Int))]) (fun k=>[]) (fun k=>(show LR from x.1).length-k.1) ⟨0,by omega,rfl⟩ (fun _=>[])]) (fun x hp=>?_)
 obtain⟨x,c,u⟩:=x
 change List aF at x
 refine bP ((asT Int 0=0/\True)/\∀ (i:{ k:Nat // k<=List.length x/\(List.any (List.take k x) fun(q:aF)=>!aF.ok q)=false }),asT Bool true=true/\ifB (decide (aA (aB i)<aA x.length)) ((0<=aA (aB i)/\aA (aB i)<aA x.length/\uU (List.getD x (aA (aB i)).toNat { ok:=false,x:=0,g:=aC Nat,h:=aC Nat })/\True)/\ifB (!aF.ok (List.getD x (aA (aB i)).toNat { ok:=false,x:=0,g:=aC Nat,h:=aC Nat })) (True/\aA (aB i)=CQ (fun(q:aF)=>!aF.ok q) x/\True) (∃ (i':{ k:Nat // k<=List.length x/\(List.any (List.take k x) fun(q:aF)=>!aF.ok q)=false }),List.length x-aB i'<List.length x-aB i/\IntKind.wrap IntKind.i64 (aA (aB i)+1)=aA (aB i')/\True)) (True/\-1=CQ (fun(q:aF)=>!aF.ok q) x/\True)) (by kernel_rfl) ?_
 obtain⟨hl,hb⟩:=hp
 have hZ:(⟨false,0,[],[]⟩:aF)=bV:=rfl
 dsimp only[aA,asT,aB,aC] at *
 simp only[hZ,Int.toNat_natCast,aJ,dh,bn,mg,mW,nI,qw]
 refine fun i=>⟨fun h1=>⟨⟨by omega,h1,fA hb (by omega)⟩,fun h2=>?_,fun h2=>⟨⟨i.1+1,by omega,?_⟩,by simp only;omega,?_⟩⟩,fun h1=>?_⟩
 ·exact(VB (d:=bV) (by omega) i.2.2 (by rw[h2];rfl)).symm
 ·rw[mM (d:=bV) (by omega),i.2.2,h2];rfl
 ·rw[bF (by omega) (by omega)];rfl
 ·have h3:=i.2.2
  rw[jG (by omega)] at h3
  exact(a1p h3).symm
def c4t:Ctr:=⟨[.list tR,.clo 163 .unit],[tB],fun x=>(show LR from x.1).length<=1000000/\∀ q ∈ (show LR from x.1),uU q,fun x=>((show LR from x.1).any (fun q:aF=>!q.ok),())⟩
theorem b4g:aY Tryz.prog 162 c4t:=by
 refine lX ((nil0.ad a0W).ad b4N) [] Tryz.func162 rfl (by decide) (fun x=>[]) (fun x hp=>?_)
 obtain⟨x,c,u⟩:=x
 change List aF at x
 refine bP (((List.length x<=1000000/\∀ (q:aF),q ∈ x->uU q)/\True)/\True/\(decide (CQ (fun(q:aF)=>!aF.ok q) x ≥ 0)=List.any x fun(q:aF)=>!aF.ok q)/\True) (by kernel_rfl) ?_
 exact⟨⟨hp,trivial⟩,trivial,VD _ _,trivial⟩
def c1S:Ctr:=⟨[.list tR],[tB],fun x=>(show LR from x.1).length<=1000000/\∀ q ∈ (show LR from x.1),uU q,fun x=>(!(show LR from x.1).any (fun q:aF=>!q.ok),())⟩
theorem nK:aY Tryz.prog 134 c1S:=by
 refine lX ((nil0.ad a0W).ad b4g) [] Tryz.func134 rfl (by decide) (fun x=>[]) (fun x hp=>?_)
 obtain⟨x,u⟩:=x
 change List aF at x
 refine bP (((List.length x<=1000000/\∀ (q:aF),q ∈ x->uU q)/\True)/\True/\((!List.any x fun(q:aF)=>!aF.ok q)=!List.any x fun(q:aF)=>!aF.ok q)/\True) (by kernel_rfl) ?_
 exact⟨⟨hp,trivial⟩,trivial,rfl,trivial⟩
abbrev MR:Type:=List (List aF)
abbrev wdM {α:Type} (a:List (List α)):Nat:=(a.getD 0 []).length
def badR (n:Nat) (r:LR):Bool:=!(r.length==n) || r.any (fun q=>!q.ok)
def sV (r:LR):Prop:=r.length<=1000000/\∀ q ∈ r,uU q
theorem a3u (m n:Nat):((m:Int) != (n:Int))=!(m==n):=by
 by_cases h:m=n
 ·subst h;simp
 ·rw[nS.mpr h,uy.mpr (fun h2=>h (by exact_mod_cast h2))];rfl
def c1P:Ctr:=⟨[.list tR,.ref tMR],[tB],fun x=>sV x.1/\0<(show MR from x.2.1).length,fun x=>(badR (wdM (show MR from x.2.1)) x.1,())⟩
theorem TW:aY Tryz.prog 133 c1P:=by
 refine lX (nil0.ad nK) [] Tryz.func133 rfl (by decide) (fun x=>[]) (fun x hp=>?_)
 obtain⟨x,a,u⟩:=x
 change List aF at x
 change List (List aF) at a
 refine bP (let A₀:=(List.getD a 0 (aC aF)).length;(asT Int 0<=0/\0<aA a.length/\(((aA x.length != aA A₀)==false)=true->((aA x.length != aA A₀)==false)=true/\(List.length x<=1000000/\∀ (q:aF),q ∈ x->uU q)/\True)/\(((aA x.length != aA A₀)==false)=true->((aA x.length != aA A₀)==false)=true/\True)/\((aA x.length != aA A₀)=false->((aA x.length != aA A₀)==false)=true)/\True)/\True/\(bif aA x.length != aA A₀ then true else !!List.any x fun(q:aF)=>!aF.ok q)=badR (wdM a) x/\True) (by kernel_rfl) ?_
 obtain⟨hs,h0⟩:=hp
 dsimp only[aA,asT,aB,aC] at *
 refine⟨⟨by omega,by omega,fun h=>⟨h,hs,trivial⟩,fun h=>⟨h,trivial⟩,fun h=>by rw[h];rfl,trivial⟩,trivial,?_,trivial⟩
 unfold badR
 rw[Bool.not_not,a3u]
 cases x.length==wdM a<;>rfl
def c4C:Ctr:=⟨[tMR,.clo 133 (.pair (.ref tMR) .unit)],[tI],fun x=>(show MR from x.1).length<=1000000/\(∀ r ∈ (show MR from x.1),sV r)/\0<(show MR from x.2.1.1).length,fun x=>(CQ (badR (wdM (show MR from x.2.1.1))) (show MR from x.1),())⟩
theorem b4M:aY Tryz.prog 161 c4C:=by
 refine lX (nil0.ad TW) [] Tryz.func161 rfl (by decide) (fun x=>[.inv {k:Nat // k<=(show MR from x.1).length/\((show MR from x.1).take k).any (badR (wdM (show MR from x.2.1.1)))=false} (fun k=>[(8,.val tI (k.1:Int))]) (fun k=>[]) (fun k=>(show MR from x.1).length-k.1) ⟨0,by omega,rfl⟩ (fun _=>[])]) (fun x hp=>?_)
 obtain⟨x,⟨a,c⟩,u⟩:=x
 change List (List aF) at x
 change List (List aF) at a
 refine bP ((asT Int 0=0/\True)/\∀ (i:{ k:Nat // k<=List.length x/\List.any (List.take k x) (badR (wdM a))=false }),asT Bool true=true/\ifB (decide (aA (aB i)<aA x.length)) ((0<=aA (aB i)/\aA (aB i)<aA x.length/\(sV (List.getD x (aA (aB i)).toNat (aC aF))/\0<List.length a)/\True)/\ifB (badR (wdM a) (List.getD x (aA (aB i)).toNat (aC aF))) (True/\aA (aB i)=CQ (badR (wdM a)) x/\True) (∃ (i':{ k:Nat // k<=List.length x/\List.any (List.take k x) (badR (wdM a))=false }),List.length x-aB i'<List.length x-aB i/\IntKind.wrap IntKind.i64 (aA (aB i)+1)=aA (aB i')/\True)) (True/\-1=CQ (badR (wdM a)) x/\True)) (by kernel_rfl) ?_
 obtain⟨hl,hb,h0⟩:=hp
 dsimp only[aA,asT,aB,aC] at *
 simp only[Int.toNat_natCast,aJ,dh,bn,mg,mW]
 refine fun i=>⟨fun h1=>⟨⟨by omega,h1,fA hb (by omega),h0⟩,fun h2=>?_,fun h2=>⟨⟨i.1+1,by omega,?_⟩,by simp only;omega,?_⟩⟩,fun h1=>?_⟩
 ·exact(VB (d:=[]) (by omega) i.2.2 h2).symm
 ·rw[mM (d:=[]) (by omega),i.2.2,h2];rfl
 ·rw[bF (by omega) (by omega)];rfl
 ·have h3:=i.2.2
  rw[jG (by omega)] at h3
  exact(a1p h3).symm
def c4s:Ctr:=⟨[tMR,.clo 133 (.pair (.ref tMR) .unit)],[tB],fun x=>(show MR from x.1).length<=1000000/\(∀ r ∈ (show MR from x.1),sV r)/\0<(show MR from x.2.1.1).length,fun x=>((show MR from x.1).any (badR (wdM (show MR from x.2.1.1))),())⟩
theorem b4f:aY Tryz.prog 132 c4s:=by
 refine lX ((nil0.ad TW).ad b4M) [] Tryz.func132 rfl (by decide) (fun x=>[]) (fun x hp=>?_)
 obtain⟨x,⟨a,c⟩,u⟩:=x
 change List (List aF) at x
 change List (List aF) at a
 refine bP (((List.length x<=1000000/\(∀ (r:List aF),r ∈ x->sV r)/\0<List.length a)/\True)/\True/\decide (CQ (badR (wdM a)) x ≥ 0)=List.any x (badR (wdM a))/\True) (by kernel_rfl) ?_
 exact⟨⟨hp,trivial⟩,trivial,VD _ _,trivial⟩
def bW (a:MR):Int:=if 1<=a.length/\a.length<=64/\1<=wdM a/\wdM a<=64/\a.any (badR (wdM a))=false then 0 else 1
def iM (a:MR):Prop:=a.length<=1000000/\∀ r ∈ a,sV r
def c4r:Ctr:=⟨[tMR],[tI],fun x=>iM x.1,fun x=>(bW x.1,())⟩
theorem qB:aY Tryz.prog 88 c4r:=by
 refine lX ((nil0.ad TW).ad b4f) [] Tryz.func88 rfl (by decide) (fun x=>[]) (fun x hp=>?_)
 obtain⟨a,u⟩:=x
 change List (List aF) at a
 refine bP (let A₂:=(List.getD a 0 (aC aF)).length;let aV:=(aA a.length > 64);let A₀:=(bif bif decide (aA a.length<1) then true else decide aV then true else decide (aA A₂<1));let A₁:=(bif decide (aA a.length<1) then true else decide aV);(((decide (aA a.length<1)==false)=true->(decide (aA a.length<1)==false)=true/\True)/\((decide (aA a.length<1)==false)=true->(decide (aA a.length<1)==false)=true/\True)/\(decide (aA a.length<1)=false->(decide (aA a.length<1)==false)=true)/\((A₁==false)=true->(A₁==false)=true/\asT Int 0<=0/\0<aA a.length/\True)/\((A₁==false)=true->(A₁==false)=true/\True)/\((A₁==false)=true->(A₁==false)=true/\True)/\((A₁==false)=true->(A₁==false)=true/\True)/\(A₁=false->(A₁==false)=true)/\((A₀==false)=true->(A₀==false)=true/\asT Int 0<=0/\0<aA a.length/\True)/\((A₀==false)=true->(A₀==false)=true/\True)/\((A₀==false)=true->(A₀==false)=true/\True)/\((A₀==false)=true->(A₀==false)=true/\True)/\(A₀=false->(A₀==false)=true)/\True)/\ifB (bif bif bif decide (aA a.length<1) then true else decide aV then true else decide (aA A₂<1) then true else decide (aA A₂ > 64)) (True/\1=bW a/\True) (((List.length a<=1000000/\(∀ (r:List aF),r ∈ a->sV r)/\0<List.length a)/\True)/\ifB (List.any a (badR (wdM a))) (True/\1=bW a/\True) (True/\0=bW a/\True))) (by kernel_rfl) ?_
 dsimp only[aA,asT,aB,aC] at *
 simp only[Int.toNat_natCast,aJ,dh,bn,mg,mW]
 have eL:∀ n:Nat,decide ((n:Int)<1)=decide (n<1):=fun n=>yj.mpr (by omega)
 have eG:∀ n:Nat,decide ((n:Int) > 64)=decide (n > 64):=fun n=>yj.mpr (by omega)
 rw[eL,eG,eL,eG]
 have g1:decide (a.length<1)=false->0<(a.length:Int):=fun h=>by have:=zy h;omega
 have g2:bW a=bif (decide (a.length<1) || decide (a.length > 64) || decide ((a.getD 0 []).length<1) || decide ((a.getD 0 []).length > 64) || a.any (badR (wdM a))) then 1 else 0:=by
  unfold bW
  by_cases h1:a.length<1
  ·rw[dw (by omega),jw h1];rfl
  ·by_cases h2:a.length > 64
   ·rw[dw (by omega),jw h2];simp
   ·by_cases h3:(a.getD 0 []).length<1
    ·rw[dw (fun h=>by have:=h.2.2.1;unfold wdM at this;omega),jw h3];simp
    ·by_cases h4:(a.getD 0 []).length > 64
     ·rw[dw (fun h=>by have:=h.2.2.2.1;unfold wdM at this;omega),jw h4];simp
     ·rw[jq h1,jq h2,jq h3,jq h4]
      cases h5:a.any (badR (wdM a))
      ·rw[eY ⟨by omega,by omega,by unfold wdM;omega,by unfold wdM;omega,rfl⟩];rfl
      ·rw[dw (fun h=>Bool.noConfusion h.2.2.2.2)];rfl
 have hl:a.length<=1000000:=hp.1
 have hr:∀ r,r ∈ a->sV r:=hp.2
 rw[g2]
 have g4:decide (a.length<1)=true->(a.length:Int)<1:=fun h=>by have:=oz h;omega
 have g3:(decide (a.length<1)=false->0<a.length):=fun h=>by have:=zy h;omega
 generalize decide (a.length<1)=b1 at *
 generalize decide (a.length > 64)=b2 at *
 generalize decide ((a.getD 0 []).length<1)=b3 at *
 generalize decide ((a.getD 0 []).length > 64)=b4 at *
 generalize a.any (badR (wdM a))=b5 at *
 clear eL eG g2
 cases b1
 ·have k1:=g1 rfl
  have k3:=g3 rfl
  cases b2<;>cases b3<;>cases b4<;>cases b5<;>simp[k1,k3,hl]<;>exact hr
 ·simp[g4 rfl]
abbrev ML:Type:=List (List (List aF))
theorem b0A (a:MR):bW a=0\/bW a=1:=by unfold bW;split<;>simp
def gW (l:ML):Int:=if l.any (fun a=>bW a != 0) then 1 else 0
def c1V:Ctr:=⟨[.list tMR],[tI],fun x=>(show ML from x.1).length<=1000000/\∀ a ∈ (show ML from x.1),iM a,fun x=>(gW x.1,())⟩
theorem RD:aY Tryz.prog 109 c1V:=by
 refine lX (nil0.ad qB) [] Tryz.func109 rfl (by decide) (fun x=>[.inv {k:Nat // k<=(show ML from x.1).length/\((show ML from x.1).take k).any (fun a=>bW a != 0)=false} (fun k=>[(8,.val tI (k.1:Int))]) (fun k=>[]) (fun k=>(show ML from x.1).length-k.1) ⟨0,by omega,rfl⟩ (fun _=>[])]) (fun x hp=>?_)
 obtain⟨x,u⟩:=x
 change List (List (List aF)) at x
 refine bP ((asT Int 0=0/\True)/\∀ (i:{ k:Nat // k<=List.length x/\(List.any (List.take k x) fun(a:List (List aF))=>bW a != 0)=false }),asT Bool true=true/\ifB (decide (aA (aB i)<aA x.length)) ((0<=aA (aB i)/\aA (aB i)<aA x.length/\True)/\(iM (List.getD x (aA (aB i)).toNat (aC (List aF)))/\True)/\ifB (bW (List.getD x (aA (aB i)).toNat (aC (List aF))) != 0) (True/\bW (List.getD x (aA (aB i)).toNat (aC (List aF)))=gW x/\True) (∃ (i':{ k:Nat // k<=List.length x/\(List.any (List.take k x) fun(a:List (List aF))=>bW a != 0)=false }),List.length x-aB i'<List.length x-aB i/\IntKind.wrap IntKind.i64 (aA (aB i)+1)=aA (aB i')/\True)) (True/\0=gW x/\True)) (by kernel_rfl) ?_
 obtain⟨hl,hb⟩:=hp
 dsimp only[aA,asT,aB,aC] at *
 simp only[Int.toNat_natCast,aJ,dh,bn,mg,mW]
 refine fun i=>⟨fun h1=>⟨⟨by omega,h1⟩,fA hb (by omega),fun h2=>?_,fun h2=>⟨⟨i.1+1,by omega,?_⟩,by simp only;omega,?_⟩⟩,fun h1=>?_⟩
 ·have hi:i.1<x.length:=by omega
  have h3:x.any (fun a=>bW a != 0)=true:=tY.mpr ⟨x.getD i.1 [],by rw[ay,dn hi];exact jm hi,h2⟩
  unfold gW;rw[h3]
  rcases b0A (x.getD i.1 []) with h|h
  ·rw[h] at h2;exact absurd h2 (by decide)
  ·rw[h];rfl
 ·rw[mM (d:=[]) (by omega),i.2.2,h2];rfl
 ·rw[bF (by omega) (by omega)];rfl
 ·have h3:=i.2.2
  rw[jG (by omega)] at h3
  unfold gW;rw[h3];rfl
abbrev MQ:Type:=List (List Rat)
abbrev ent (a:MQ) (i j:Nat):Rat:=(a.getD i []).getD j 0
def tab (R C:Nat) (f:Nat->Nat->Rat):MQ:=(List.range R).map fun i=>(List.range C).map fun j=>f i j
def bK (R C:Nat) (f:Nat->Nat->Rat):MR:=(List.range R).map fun i=>(List.range C).map fun j=>dS (f i j)
def isM (a:MQ) (R C:Nat):Prop:=a.length=R/\(∀ r ∈ a,r.length=C)/\1<=R/\R<=64/\1<=C/\C<=64
theorem aN (R C:Nat) (f:Nat->Nat->Rat):(bK R C f).length=R:=by simp[bK]
theorem a3H {α:Type} (X:List (List α)) (Z:List α) {k:Nat} (hk:k<X.length):List.map (fun i=>(X++[Z]).getD i []) ((List.range X.length).set k X.length)=X.set k Z:=by
 apply yw
 ·simp
 ·intro i h1 h2
  have hi:i<X.length:=by simpa using h2
  rw[List.getElem_map,List.getElem_set,List.getElem_set]
  split
  ·simp
  ·rw[List.getElem_range,ay,vw hi,dn hi];rfl
theorem a7s (n k:Nat):((List.range n).set k n).Nodup:=by
 refine List.nodup_iff_pairwise_ne.mpr (List.pairwise_iff_getElem.mpr fun i j hi hj h=>?_)
 have h1:i<n:=by simpa using hi
 have h2:j<n:=by simpa using hj
 rw[List.getElem_set,List.getElem_set]
 split<;>split<;>simp<;>omega
theorem b1X {α:Type} {H:List (List α)} {k R:Nat} (hH:H.length=k) (hk:k<R) (Z:List α):(H++List.replicate (R-k) []).set k Z=H++[Z]++List.replicate (R-k-1) []:=by
 obtain⟨d,rfl⟩:∃ d,R=k+d+1:=⟨R-k-1,by omega⟩
 subst hH
 rw[show H.length+d+1-H.length=d+1 by omega,show d+1-1=d by omega,List.set_append_right _ _ (aj _),Nat.sub_self,List.replicate_succ,List.set_cons_zero]
 simp
theorem a7r {α:Type} {H T:List (List α)} {k:Nat} (hH:H.length=k) (Z:List α):rowAt (H++[Z]++T) k=Z:=by
 subst hH;unfold rowAt;simp
theorem b1Z {α:Type} {H T:List (List α)} {k:Nat} (hH:H.length=k) (Z Y:List α):(H++[Z]++T).set k Y=H++[Y]++T:=by
 subst hH;simp
theorem b1Y {α:Type} (g:Nat->α) (z:α) {q C:Nat} (h:q<C):(List.map g (List.range q)++List.replicate (C-q) z).set q (g q)=List.map g (List.range (q+1))++List.replicate (C-(q+1)) z:=by
 obtain⟨d,rfl⟩:∃ d,C=q+d+1:=⟨C-q-1,by omega⟩
 rw[show q+d+1-q=d+1 by omega,show q+d+1-(q+1)=d by omega,List.set_append_right _ _ (by simp),Ae]
 simp[List.replicate_succ]
theorem a9N (k C:Nat) (f:Nat->Nat->Rat):bK (k+1) C f=bK k C f++[List.map (fun j=>dS (f k j)) (List.range C)]:=by unfold bK;rw[Ae];simp
theorem jJ {α:Type} {p:α->Prop}:∀ {xs:List α},bY p xs↔∀ x ∈ xs,p x
 | []=>by simp[bY]
 | x::xs=>by simp[bY,jJ (xs:=xs)]
theorem vG (R C:Nat) (f:Nat->Nat->Rat):bY (fun x=>aW [bY (fun x=>aW [aF.ok x=true]) x]) (bK R C f):=by
 refine jJ.mpr fun r hr=>⟨jJ.mpr fun q hq=>⟨?_,trivial⟩,trivial⟩
 obtain⟨i,_,rfl⟩:=ni.mp hr
 obtain⟨j,_,rfl⟩:=ni.mp hq
 rfl
theorem BM (R C:Nat) (f:Nat->Nat->Rat):List.map (fun xs=>List.map (fun x=>aF.x x) xs) (bK R C f)=tab R C f:=by
 unfold bK tab;simp[dS,Function.comp_def]
end Go.Proofs.YtgplhbhfdgempaaGreat
